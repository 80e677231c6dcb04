/-
  CronParses: the row, out of the walk and the plain law; and its card.
-/
import Derived.Test.YtpbfajkbkomfcaaGreatDoorRows
import Derived.Test.YtpbfajkbkomfcaaGreatDoorCards
import Derived.Test.YtpbfajkbkomfcaaGreatDoorTie
import Derived.Test.YtpbfajkbkomfcaaGreatDoorLCronParsesW
import Derived.Test.YtpbfajkbkomfcaaGreatDoorCnParses
import Derived.WalkKit
import Derived.ProofKit
import Derived.OpenShut
import Derived.ShutString
import Derived.ChangeOld
import Derived.Below
import Derived.LaidMore
import Derived.Lay
import Derived.SevenTiedAt
import Derived.Stop.Joined
namespace Go.Proofs.YtpbfajkbkomfcaaGreatDoor
open Go.ChangeShapes Go.WideShapes Go.ChangeAt Go.RowKit
open Go.ChangeMaps (open_string shut_string)
set_option linter.unusedVariables false
theorem ownCronParses : ownKnob Tryz.prog.godebug = none := by kernel_rfl
theorem laidOutCronParses : laidOutB Tryz.prog = true := by kernel_rfl
theorem plainLaidCronParses : (Rows.cronParsesRow.laid.all fun x => x.2.handleName?.isNone) = true := by kernel_rfl
/-- What the variables that the walk reads hold when the call begins. -/
theorem globsCronParses {W : World} (hsh : W.ShapedOpen Tryz.prog) (hL : laidMetH Tryz.prog Rows.cronParsesRow.laid W) : ∀ g cs, Go.Av.G g = some cs → Go.Av.Rel (Go.Av.Info.start W) W (.cp cs) (.pointer (some ⟨g, 0, none⟩)) := by
  rw [MakeChecks.laidMetH_plain _ _ _ plainLaidCronParses] at hL
  have x0 : ∃ m, W.cell? ⟨0, 0, none⟩ = some (.int .i64 m) := cell_of_shapedOpen_int (P := Tryz.prog) (g := 0) (t := 3) (zero := #[.int .i64 0]) hsh (of_decide_eq_true (by kernel_rfl)) (by kernel_rfl) rfl (by kernel_rfl) (by kernel_rfl) Tryz.underlying3
  have x4 : ∃ v, W.cell? ⟨4, 0, none⟩ = some v ∧ (v = .nilIface ∨ ∃ u y, v = .iface u y) := Go.Av.laid_iface (n := "strconv.ErrSyntax") (d := Rows.laid_strconv_ErrSyntax) hL (by simp [Rows.cronParsesRow]) (by kernel_rfl) (by kernel_rfl) Tryz.underlying83
  have x5 : ∃ v, W.cell? ⟨5, 0, none⟩ = some v ∧ (v = .nilIface ∨ ∃ u y, v = .iface u y) := Go.Av.laid_iface (n := "strconv.ErrRange") (d := Rows.laid_strconv_ErrRange) hL (by simp [Rows.cronParsesRow]) (by kernel_rfl) (by kernel_rfl) Tryz.underlying83
  intro g cs hG
  rcases g with _ | _ | _ | _ | _ | _ | g
  · obtain rfl := Option.some.inj hG
    obtain ⟨m, hm⟩ := x0
    exact Go.Av.rel_var hm (.anyk _ _)
  · simp [Go.Av.G] at hG
  · simp [Go.Av.G] at hG
  · simp [Go.Av.G] at hG
  · obtain rfl := Option.some.inj hG
    obtain ⟨v, hv, hk⟩ := x4
    exact Go.Av.rel_var hv (Go.Av.rel_anyi hk)
  · obtain rfl := Option.some.inj hG
    obtain ⟨v, hv, hk⟩ := x5
    exact Go.Av.rel_var hv (Go.Av.rel_anyi hk)
  · simp [Go.Av.G] at hG
set_option maxRecDepth 100000 in
theorem liftedCronParses (os : Os) (started : os.Started) (H : Type) (enc : TypeId × Value → H) :
    ReturnsInHanded {} Tryz.checked os 3 .any (fun w args => (Rows.cronParsesSpec.pre enc Tryz.prog Tryz.f3 Rows.cronParsesRow.domain false w args ∧ laidMetH Tryz.prog Rows.cronParsesRow.laid w) ∧ sizedMet enc Tryz.prog Tryz.f3 (OpenSpec.ofChange Rows.cronParsesSpec) false w args)
      (Rows.cronParsesSpec.post enc Tryz.prog Tryz.f3 false true false false) := by
  refine Go.Av.returns_and_shaped (C := Tryz.checked) (X := fun w _ => laidMetH Tryz.prog Rows.cronParsesRow.laid w) (fun _ _ _ hh h => h.of_heap hh) ownCronParses started (by kernel_rfl) Tryz.func3
    (ChangeSpec.witness_shaped (enc := enc) (C := Tryz.checked) (os := os) (X := fun w _ => laidMetH Tryz.prog Rows.cronParsesRow.laid w) false (World.laidAll Tryz.prog os Rows.cronParsesRow.laid) #[.string ByteArray.empty] 8 (World.laidAll_os _ _ _)
      (World.shaped_of_ZipB (by kernel_rfl) (by kernel_rfl)) (by kernel_rfl) (by kernel_rfl) (by kernel_rfl)
      (by rw [MakeChecks.laidMetH_plain _ _ _ plainLaidCronParses]; exact laidMet_laidAll _ (by kernel_rfl) (by kernel_rfl))) ?_
  intro W base args ds gs before hval0 hW hsh hL
  have hval : ∀ (j : Nat) t v, Tryz.f3.params[j]? = some t → args[j]? = some v → Value.okWide Tryz.prog W .any base t v := hval0
  have hW' := hW
  obtain ⟨p, q, hA0, hV, rfl, hfz, hnd⟩ := hW
  have hA : DataW.TrodAll enc Tryz.prog W 0 (fun _ => true) true Tryz.f3.params.toList args.toList ds p := hA0
  rw [Tryz.params3] at hA hval
  obtain ⟨v0, vs0, d0, ds0, p0, q0, hargs, rfl, rfl, h0, r0⟩ := trodAll_cons hA
  obtain ⟨rfl, rfl, rfl⟩ := trodAll_nil r0
  obtain rfl : args = #[v0] := by cases args; simp_all
  obtain ⟨rfl, rfl⟩ := trodVars_none hV
  have k0 := h0
  have lt0 : ∀ x ∈ p0, x.block < W.heap.size := by obtain ⟨m, hm⟩ := k0; exact DataW.trod_lt m _ _ _ hm
  obtain ⟨a0, rfl, rfl, rfl, w0⟩ := open_string Tryz.underlying9 (hval 0 9 v0 rfl rfl) h0
  clear hA0 hval0
  refine (Go.Av.law_of (w_law05_CronParses 100001 (a0.data.toList) true (Go.Cn.CronParses_t (a0.data.toList))) (Go.Av.RelL.cons (Go.Av.rel_string _ _ a0) Go.Av.RelL.nil) (globsCronParses hsh hL)).mono fun e W' ⟨he, bel⟩ => ?_
  subst he
  exact ⟨_, rfl, _, _, _, [], _, [], hW', trodAll_mk1 (shut_bool Tryz.underlying4 _), (trodAll_cons_mk (Below.trod laidOutCronParses (by kernel_rfl) (of_decide_eq_true (by kernel_rfl)) k0 bel lt0) trodAll_mk0), rfl, bel.frame _, fun h => by cases h⟩
theorem overCronParses : Rows.cronParsesRow.holds Tryz.pinned (OpenSpec.ofChange Rows.cronParsesSpec) :=
  OpenClaim.holds_of_wide 3 Tryz.f3 rfl rfl rfl rfl rfl rfl rfl ⟨rfl, rfl, rfl, rfl, rfl⟩ rfl rfl rfl rfl rfl (by kernel_rfl) Tryz.func3 (by kernel_rfl)
    (of_decide_eq_true (by kernel_rfl)) (by unfold Func.isWrapper; first | (rw [if_pos (by decide +kernel)]; kernel_rfl) | (rw [if_neg (by decide +kernel)]; exact ⟨rfl, rfl⟩))
    (fun os started H enc _ => liftedCronParses os started H enc)
/-- The given statement: the card. -/
theorem CronParses_holds : Rows.CronParsesCardSaid :=
  Claim7.holds_tied_plain_at .later [] [.data, .data, .data, .data, .sentinel, .sentinel, .pinned] true (true, "df4fab26474276560c05aed426b0f5f118cdb3881b28e92c4ad566249eeccb1a") true overCronParses (fun _ h => by cases h) (by kernel_rfl) (fun _ h => by cases h) cronParses_row_tie rfl ⟨rfl, rfl⟩ (by kernel_rfl) rfl
    (fun f fn hf hfn => by
      obtain rfl : f = 3 := Option.some.inj ((show Tryz.prog.funcNamed Rows.cronParsesRow.func = some 3 by kernel_rfl).symm.trans hf) |>.symm
      obtain rfl : fn = Tryz.f3 := (Option.some.inj (Tryz.func3.symm.trans hfn)).symm
      exact ⟨by kernel_rfl, fun j t ht => by
        rw [Tryz.params3] at ht
        have hm : t ∈ [9] := by have := Array.mem_of_getElem? ht; simpa using this
        have hall : ([9].all fun u => !Tryz.prog.wantsStandIn u) = true := by kernel_rfl
        exact (show Tryz.prog.wantsStandIn t = false by simpa using List.all_eq_true.1 hall t hm)⟩)
    (by kernel_rfl)
end Go.Proofs.YtpbfajkbkomfcaaGreatDoor
