/-
  CronSteps: the row, out of the walk and the plain law; and its card.
-/
import Derived.Test.YtpbfajkbkomfcaaGreatDoorRows
import Derived.Test.YtpbfajkbkomfcaaGreatDoorCards
import Derived.Test.YtpbfajkbkomfcaaGreatDoorTie
import Derived.Test.YtpbfajkbkomfcaaGreatDoorLCronStepsW
import Derived.Test.YtpbfajkbkomfcaaGreatDoorCnSteps
import Derived.WalkKit
import Derived.ProofKit
import Derived.OpenShut
import Derived.ShutString
import Derived.ChangeOld
import Derived.Below
import Derived.LaidMore
import Derived.Lay
import Derived.SevenTiedAt
import Derived.Stop.Joined
namespace Go.Proofs.YtpbfajkbkomfcaaGreatDoor
open Go.ChangeShapes Go.WideShapes Go.ChangeAt Go.RowKit
open Go.ChangeMaps (open_string shut_string)
set_option linter.unusedVariables false
theorem ownCronSteps : ownKnob Tryz.prog.godebug = none := by kernel_rfl
theorem laidOutCronSteps : laidOutB Tryz.prog = true := by kernel_rfl
theorem plainLaidCronSteps : (Rows.cronStepsRow.laid.all fun x => x.2.handleName?.isNone) = true := by kernel_rfl
/-- What the variables that the walk reads hold when the call begins. -/
theorem globsCronSteps {W : World} (hsh : W.ShapedOpen Tryz.prog) (hL : laidMetH Tryz.prog Rows.cronStepsRow.laid W) : ∀ g cs, Go.Av.G g = some cs → Go.Av.Rel (Go.Av.Info.start W) W (.cp cs) (.pointer (some ⟨g, 0, none⟩)) := by
  rw [MakeChecks.laidMetH_plain _ _ _ plainLaidCronSteps] at hL
  have x0 : ∃ m, W.cell? ⟨0, 0, none⟩ = some (.int .i64 m) := cell_of_shapedOpen_int (P := Tryz.prog) (g := 0) (t := 3) (zero := #[.int .i64 0]) hsh (of_decide_eq_true (by kernel_rfl)) (by kernel_rfl) rfl (by kernel_rfl) (by kernel_rfl) Tryz.underlying3
  have x4 : ∃ v, W.cell? ⟨4, 0, none⟩ = some v ∧ (v = .nilIface ∨ ∃ u y, v = .iface u y) := Go.Av.laid_iface (n := "strconv.ErrSyntax") (d := Rows.laid_strconv_ErrSyntax) hL (by simp [Rows.cronStepsRow]) (by kernel_rfl) (by kernel_rfl) Tryz.underlying83
  have x5 : ∃ v, W.cell? ⟨5, 0, none⟩ = some v ∧ (v = .nilIface ∨ ∃ u y, v = .iface u y) := Go.Av.laid_iface (n := "strconv.ErrRange") (d := Rows.laid_strconv_ErrRange) hL (by simp [Rows.cronStepsRow]) (by kernel_rfl) (by kernel_rfl) Tryz.underlying83
  intro g cs hG
  rcases g with _ | _ | _ | _ | _ | _ | g
  · obtain rfl := Option.some.inj hG
    obtain ⟨m, hm⟩ := x0
    exact Go.Av.rel_var hm (.anyk _ _)
  · simp [Go.Av.G] at hG
  · simp [Go.Av.G] at hG
  · simp [Go.Av.G] at hG
  · obtain rfl := Option.some.inj hG
    obtain ⟨v, hv, hk⟩ := x4
    exact Go.Av.rel_var hv (Go.Av.rel_anyi hk)
  · obtain rfl := Option.some.inj hG
    obtain ⟨v, hv, hk⟩ := x5
    exact Go.Av.rel_var hv (Go.Av.rel_anyi hk)
  · simp [Go.Av.G] at hG
set_option maxRecDepth 100000 in
theorem liftedCronSteps (os : Os) (started : os.Started) (H : Type) (enc : TypeId × Value → H) :
    ReturnsInHanded {} Tryz.checked os 5 .any (fun w args => (Rows.cronStepsSpec.pre enc Tryz.prog Tryz.f5 Rows.cronStepsRow.domain false w args ∧ laidMetH Tryz.prog Rows.cronStepsRow.laid w) ∧ sizedMet enc Tryz.prog Tryz.f5 (OpenSpec.ofChange Rows.cronStepsSpec) false w args)
      (Rows.cronStepsSpec.post enc Tryz.prog Tryz.f5 false true false false) := by
  refine Go.Av.returns_and_shaped (C := Tryz.checked) (X := fun w _ => laidMetH Tryz.prog Rows.cronStepsRow.laid w) (fun _ _ _ hh h => h.of_heap hh) ownCronSteps started (by kernel_rfl) Tryz.func5
    (ChangeSpec.witness_shaped (enc := enc) (C := Tryz.checked) (os := os) (X := fun w _ => laidMetH Tryz.prog Rows.cronStepsRow.laid w) false (World.laidAll Tryz.prog os Rows.cronStepsRow.laid) #[.int .i64 0, .int .i64 0, .int .i64 0] 8 (World.laidAll_os _ _ _)
      (World.shaped_of_ZipB (by kernel_rfl) (by kernel_rfl)) (by kernel_rfl) (by kernel_rfl) (by kernel_rfl)
      (by rw [MakeChecks.laidMetH_plain _ _ _ plainLaidCronSteps]; exact laidMet_laidAll _ (by kernel_rfl) (by kernel_rfl))) ?_
  intro W base args ds gs before hval0 hW hsh hL
  have hval : ∀ (j : Nat) t v, Tryz.f5.params[j]? = some t → args[j]? = some v → Value.okWide Tryz.prog W .any base t v := hval0
  have hW' := hW
  obtain ⟨p, q, hA0, hV, rfl, hfz, hnd⟩ := hW
  have hA : DataW.TrodAll enc Tryz.prog W 0 (fun _ => true) true Tryz.f5.params.toList args.toList ds p := hA0
  rw [Tryz.params5] at hA hval
  obtain ⟨v0, vs0, d0, ds0, p0, q0, hargs, rfl, rfl, h0, r0⟩ := trodAll_cons hA
  obtain ⟨v1, vs1, d1, ds1, p1, q1, rfl, rfl, rfl, h1, r1⟩ := trodAll_cons r0
  obtain ⟨v2, vs2, d2, ds2, p2, q2, rfl, rfl, rfl, h2, r2⟩ := trodAll_cons r1
  obtain ⟨rfl, rfl, rfl⟩ := trodAll_nil r2
  obtain rfl : args = #[v0, v1, v2] := by cases args; simp_all
  obtain ⟨rfl, rfl⟩ := trodVars_none hV
  have k0 := h0
  have lt0 : ∀ x ∈ p0, x.block < W.heap.size := by obtain ⟨m, hm⟩ := k0; exact DataW.trod_lt m _ _ _ hm
  have k1 := h1
  have lt1 : ∀ x ∈ p1, x.block < W.heap.size := by obtain ⟨m, hm⟩ := k1; exact DataW.trod_lt m _ _ _ hm
  have k2 := h2
  have lt2 : ∀ x ∈ p2, x.block < W.heap.size := by obtain ⟨m, hm⟩ := k2; exact DataW.trod_lt m _ _ _ hm
  obtain ⟨a0, rfl, rfl, rfl, w0⟩ := open_int Tryz.underlying3 (hval 0 3 v0 rfl rfl) h0
  obtain ⟨a1, rfl, rfl, rfl, w1⟩ := open_int Tryz.underlying3 (hval 1 3 v1 rfl rfl) h1
  obtain ⟨a2, rfl, rfl, rfl, w2⟩ := open_int Tryz.underlying3 (hval 2 3 v2 rfl rfl) h2
  clear hA0 hval0
  refine (Go.Av.law_of (w_law05_CronSteps 1001 (a0) (a1) (a2) true (Go.Cn.CronSteps_t (a0) (a1) (a2))) (Go.Av.RelL.cons (.v _) (Go.Av.RelL.cons (.v _) (Go.Av.RelL.cons (.v _) Go.Av.RelL.nil))) (globsCronSteps hsh hL)).mono fun e W' ⟨he, bel⟩ => ?_
  subst he
  exact ⟨_, rfl, _, _, _, [], _, [], hW', trodAll_mk1 (shut_bool Tryz.underlying4 _), (trodAll_cons_mk (Below.trod laidOutCronSteps (by kernel_rfl) (of_decide_eq_true (by kernel_rfl)) k0 bel lt0) (trodAll_cons_mk (Below.trod laidOutCronSteps (by kernel_rfl) (of_decide_eq_true (by kernel_rfl)) k1 bel lt1) (trodAll_cons_mk (Below.trod laidOutCronSteps (by kernel_rfl) (of_decide_eq_true (by kernel_rfl)) k2 bel lt2) trodAll_mk0))), rfl, bel.frame _, fun h => by cases h⟩
theorem overCronSteps : Rows.cronStepsRow.holds Tryz.pinned (OpenSpec.ofChange Rows.cronStepsSpec) :=
  OpenClaim.holds_of_wide 5 Tryz.f5 rfl rfl rfl rfl rfl rfl rfl ⟨rfl, rfl, rfl, rfl, rfl⟩ rfl rfl rfl rfl rfl (by kernel_rfl) Tryz.func5 (by kernel_rfl)
    (of_decide_eq_true (by kernel_rfl)) (by unfold Func.isWrapper; first | (rw [if_pos (by decide +kernel)]; kernel_rfl) | (rw [if_neg (by decide +kernel)]; exact ⟨rfl, rfl⟩))
    (fun os started H enc _ => liftedCronSteps os started H enc)
/-- The given statement: the card. -/
theorem CronSteps_holds : Rows.CronStepsCardSaid :=
  Claim7.holds_tied_plain_at .later [] [.data, .data, .data, .data, .sentinel, .sentinel, .pinned] true (true, "df4fab26474276560c05aed426b0f5f118cdb3881b28e92c4ad566249eeccb1a") true overCronSteps (fun _ h => by cases h) (by kernel_rfl) (fun _ h => by cases h) cronSteps_row_tie rfl ⟨rfl, rfl⟩ (by kernel_rfl) rfl
    (fun f fn hf hfn => by
      obtain rfl : f = 5 := Option.some.inj ((show Tryz.prog.funcNamed Rows.cronStepsRow.func = some 5 by kernel_rfl).symm.trans hf) |>.symm
      obtain rfl : fn = Tryz.f5 := (Option.some.inj (Tryz.func5.symm.trans hfn)).symm
      exact ⟨by kernel_rfl, fun j t ht => by
        rw [Tryz.params5] at ht
        have hm : t ∈ [3] := by have := Array.mem_of_getElem? ht; simpa using this
        have hall : ([3].all fun u => !Tryz.prog.wantsStandIn u) = true := by kernel_rfl
        exact (show Tryz.prog.wantsStandIn t = false by simpa using List.all_eq_true.1 hall t hm)⟩)
    (by kernel_rfl)
end Go.Proofs.YtpbfajkbkomfcaaGreatDoor
