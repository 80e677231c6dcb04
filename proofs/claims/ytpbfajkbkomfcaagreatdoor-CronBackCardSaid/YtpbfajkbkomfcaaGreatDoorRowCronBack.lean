/-
  CronBack: the row, out of the walk and the plain law; and its card.
-/
import Derived.Test.YtpbfajkbkomfcaaGreatDoorRows
import Derived.Test.YtpbfajkbkomfcaaGreatDoorCards
import Derived.Test.YtpbfajkbkomfcaaGreatDoorTie
import Derived.Test.YtpbfajkbkomfcaaGreatDoorLCronBackW
import Derived.Test.YtpbfajkbkomfcaaGreatDoorCnBack
import Derived.Test.YtpbfajkbkomfcaaGreatDoorAvOpen
import Derived.WalkKit
import Derived.ProofKit
import Derived.OpenShut
import Derived.ShutString
import Derived.ChangeOld
import Derived.Below
import Derived.LaidMore
import Derived.Lay
import Derived.SevenTiedAt
import Derived.Stop.Joined
namespace Go.Proofs.YtpbfajkbkomfcaaGreatDoor
open Go.ChangeShapes Go.WideShapes Go.ChangeAt Go.RowKit
open Go.ChangeMaps (open_string shut_string)
set_option linter.unusedVariables false
theorem ownCronBack : ownKnob Tryz.prog.godebug = none := by kernel_rfl
theorem laidOutCronBack : laidOutB Tryz.prog = true := by kernel_rfl
theorem plainLaidCronBack : (Rows.cronBackRow.laid.all fun x => x.2.handleName?.isNone) = true := by kernel_rfl
/-- What the variables that the walk reads hold when the call begins. -/
theorem globsCronBack {W : World} (hsh : W.ShapedOpen Tryz.prog) (hL : laidMetH Tryz.prog Rows.cronBackRow.laid W) : ∀ g cs, Go.Av.G g = some cs → Go.Av.Rel (Go.Av.Info.start W) W (.cp cs) (.pointer (some ⟨g, 0, none⟩)) := by
  rw [MakeChecks.laidMetH_plain _ _ _ plainLaidCronBack] at hL
  have x0 : ∃ m, W.cell? ⟨0, 0, none⟩ = some (.int .i64 m) := cell_of_shapedOpen_int (P := Tryz.prog) (g := 0) (t := 3) (zero := #[.int .i64 0]) hsh (of_decide_eq_true (by kernel_rfl)) (by kernel_rfl) rfl (by kernel_rfl) (by kernel_rfl) Tryz.underlying3
  have x4 : ∃ v, W.cell? ⟨4, 0, none⟩ = some v ∧ (v = .nilIface ∨ ∃ u y, v = .iface u y) := Go.Av.laid_iface (n := "strconv.ErrSyntax") (d := Rows.laid_strconv_ErrSyntax) hL (by simp [Rows.cronBackRow]) (by kernel_rfl) (by kernel_rfl) Tryz.underlying83
  have x5 : ∃ v, W.cell? ⟨5, 0, none⟩ = some v ∧ (v = .nilIface ∨ ∃ u y, v = .iface u y) := Go.Av.laid_iface (n := "strconv.ErrRange") (d := Rows.laid_strconv_ErrRange) hL (by simp [Rows.cronBackRow]) (by kernel_rfl) (by kernel_rfl) Tryz.underlying83
  intro g cs hG
  rcases g with _ | _ | _ | _ | _ | _ | g
  · obtain rfl := Option.some.inj hG
    obtain ⟨m, hm⟩ := x0
    exact Go.Av.rel_var hm (.anyk _ _)
  · simp [Go.Av.G] at hG
  · simp [Go.Av.G] at hG
  · simp [Go.Av.G] at hG
  · obtain rfl := Option.some.inj hG
    obtain ⟨v, hv, hk⟩ := x4
    exact Go.Av.rel_var hv (Go.Av.rel_anyi hk)
  · obtain rfl := Option.some.inj hG
    obtain ⟨v, hv, hk⟩ := x5
    exact Go.Av.rel_var hv (Go.Av.rel_anyi hk)
  · simp [Go.Av.G] at hG
set_option maxRecDepth 100000 in
theorem liftedCronBack (os : Os) (started : os.Started) (H : Type) (enc : TypeId × Value → H) :
    ReturnsInHanded {} Tryz.checked os 8 .any (fun w args => (Rows.cronBackSpec.pre enc Tryz.prog Tryz.f8 Rows.cronBackRow.domain false w args ∧ laidMetH Tryz.prog Rows.cronBackRow.laid w) ∧ sizedMet enc Tryz.prog Tryz.f8 (OpenSpec.ofChange Rows.cronBackSpec) false w args)
      (Rows.cronBackSpec.post enc Tryz.prog Tryz.f8 false true false false) := by
  refine Go.Av.returns_and_shaped (C := Tryz.checked) (X := fun w _ => laidMetH Tryz.prog Rows.cronBackRow.laid w) (fun _ _ _ hh h => h.of_heap hh) ownCronBack started (by kernel_rfl) Tryz.func8
    (ChangeSpec.witness_shaped (enc := enc) (C := Tryz.checked) (os := os) (X := fun w _ => laidMetH Tryz.prog Rows.cronBackRow.laid w) false (World.laidAll Tryz.prog os Rows.cronBackRow.laid) #[.agg #[.slice none 0 0, .slice none 0 0, .slice none 0 0, .slice none 0 0, .slice none 0 0, .bool false, .bool false, .bool false, .bool false, .bool false], .string ByteArray.empty] 8 (World.laidAll_os _ _ _)
      (World.shaped_of_ZipB (by kernel_rfl) (by kernel_rfl)) (by kernel_rfl) (by kernel_rfl) (by kernel_rfl)
      (by rw [MakeChecks.laidMetH_plain _ _ _ plainLaidCronBack]; exact laidMet_laidAll _ (by kernel_rfl) (by kernel_rfl))) ?_
  intro W base args ds gs before hval0 hW hsh hL
  have hval : ∀ (j : Nat) t v, Tryz.f8.params[j]? = some t → args[j]? = some v → Value.okWide Tryz.prog W .any base t v := hval0
  have hW' := hW
  obtain ⟨p, q, hA0, hV, rfl, hfz, hnd⟩ := hW
  have hA : DataW.TrodAll enc Tryz.prog W 0 (fun _ => true) true Tryz.f8.params.toList args.toList ds p := hA0
  rw [Tryz.params8] at hA hval
  obtain ⟨v0, vs0, d0, ds0, p0, q0, hargs, rfl, rfl, h0, r0⟩ := trodAll_cons hA
  obtain ⟨v1, vs1, d1, ds1, p1, q1, rfl, rfl, rfl, h1, r1⟩ := trodAll_cons r0
  obtain ⟨rfl, rfl, rfl⟩ := trodAll_nil r1
  obtain rfl : args = #[v0, v1] := by cases args; simp_all
  obtain ⟨rfl, rfl⟩ := trodVars_none hV
  have k0 := h0
  have lt0 : ∀ x ∈ p0, x.block < W.heap.size := by obtain ⟨m, hm⟩ := k0; exact DataW.trod_lt m _ _ _ hm
  have k1 := h1
  have lt1 : ∀ x ∈ p1, x.block < W.heap.size := by obtain ⟨m, hm⟩ := k1; exact DataW.trod_lt m _ _ _ hm
  obtain ⟨z0, zp0, w0⟩ := Go.Av.open_agg (P := Tryz.prog) (w := W) Tryz.underlying27 (hval 0 27 v0 rfl rfl) h0 (Go.Av.opens_struct (tot := 10) Tryz.underlying27 (by kernel_rfl) (Go.Av.opensF_cons (k := 5) rfl (by kernel_rfl) (Go.Av.opens_array (m := 5) (c := 1) Tryz.underlying24 (by kernel_rfl) (by kernel_rfl) (Go.Av.opens_ints Tryz.underlying23 Tryz.underlying3 (by kernel_rfl))) (Go.Av.opensF_cons (k := 5) rfl (by kernel_rfl) (Go.Av.opens_array (m := 5) (c := 1) Tryz.underlying25 (by kernel_rfl) (by kernel_rfl) (Go.Av.opens_bool Tryz.underlying4)) (Go.Av.opensF_nil (tot := 10)))))
  obtain ⟨a0_1, a0_2, _⟩ := z0
  obtain ⟨pa0_1, pa0_2, _⟩ := zp0
  obtain ⟨pa0_1l, pa0_1e⟩ := pa0_1
  obtain ⟨a0_3, a0_1_r0, rfl, pa0_1l0⟩ := Go.Av.len_cons pa0_1l
  obtain ⟨a0_4, a0_1_r1, rfl, pa0_1l1⟩ := Go.Av.len_cons pa0_1l0
  obtain ⟨a0_5, a0_1_r2, rfl, pa0_1l2⟩ := Go.Av.len_cons pa0_1l1
  obtain ⟨a0_6, a0_1_r3, rfl, pa0_1l3⟩ := Go.Av.len_cons pa0_1l2
  obtain ⟨a0_7, a0_1_r4, rfl, pa0_1l4⟩ := Go.Av.len_cons pa0_1l3
  obtain rfl := Go.Av.len_nil pa0_1l4
  have pa0_3 := pa0_1e a0_3 (by simp)
  have pa0_4 := pa0_1e a0_4 (by simp)
  have pa0_5 := pa0_1e a0_5 (by simp)
  have pa0_6 := pa0_1e a0_6 (by simp)
  have pa0_7 := pa0_1e a0_7 (by simp)
  obtain ⟨pa0_2l, pa0_2e⟩ := pa0_2
  obtain ⟨a0_8, a0_2_r0, rfl, pa0_2l0⟩ := Go.Av.len_cons pa0_2l
  obtain ⟨a0_9, a0_2_r1, rfl, pa0_2l1⟩ := Go.Av.len_cons pa0_2l0
  obtain ⟨a0_10, a0_2_r2, rfl, pa0_2l2⟩ := Go.Av.len_cons pa0_2l1
  obtain ⟨a0_11, a0_2_r3, rfl, pa0_2l3⟩ := Go.Av.len_cons pa0_2l2
  obtain ⟨a0_12, a0_2_r4, rfl, pa0_2l4⟩ := Go.Av.len_cons pa0_2l3
  obtain rfl := Go.Av.len_nil pa0_2l4
  have pa0_8 := pa0_2e a0_8 (by simp)
  have pa0_9 := pa0_2e a0_9 (by simp)
  have pa0_10 := pa0_2e a0_10 (by simp)
  have pa0_11 := pa0_2e a0_11 (by simp)
  have pa0_12 := pa0_2e a0_12 (by simp)
  obtain ⟨a1, rfl, rfl, rfl, w1⟩ := open_string Tryz.underlying9 (hval 1 9 v1 rfl rfl) h1
  clear hA0 hval0
  refine (Go.Av.law_of (w_law05_CronBack 1001 (a0_3) (a0_4) (a0_5) (a0_6) (a0_7) (a0_8) (a0_9) (a0_10) (a0_11) (a0_12) (a1.data.toList) true (Go.Cn.CronBack_t (a0_3) (a0_4) (a0_5) (a0_6) (a0_7) (a0_8) (a0_9) (a0_10) (a0_11) (a0_12) (a1.data.toList))) (Go.Av.RelL.cons w0 (Go.Av.RelL.cons (Go.Av.rel_string _ _ a1) Go.Av.RelL.nil)) (globsCronBack hsh hL)).mono fun e W' ⟨he, bel⟩ => ?_
  subst he
  exact ⟨_, rfl, _, _, _, [], _, [], hW', trodAll_mk1 (shut_bool Tryz.underlying4 _), (trodAll_cons_mk (Below.trod laidOutCronBack (by kernel_rfl) (of_decide_eq_true (by kernel_rfl)) k0 bel lt0) (trodAll_cons_mk (Below.trod laidOutCronBack (by kernel_rfl) (of_decide_eq_true (by kernel_rfl)) k1 bel lt1) trodAll_mk0)), rfl, bel.frame _, fun h => by cases h⟩
theorem overCronBack : Rows.cronBackRow.holds Tryz.pinned (OpenSpec.ofChange Rows.cronBackSpec) :=
  OpenClaim.holds_of_wide 8 Tryz.f8 rfl rfl rfl rfl rfl rfl rfl ⟨rfl, rfl, rfl, rfl, rfl⟩ rfl rfl rfl rfl rfl (by kernel_rfl) Tryz.func8 (by kernel_rfl)
    (of_decide_eq_true (by kernel_rfl)) (by unfold Func.isWrapper; first | (rw [if_pos (by decide +kernel)]; kernel_rfl) | (rw [if_neg (by decide +kernel)]; exact ⟨rfl, rfl⟩))
    (fun os started H enc _ => liftedCronBack os started H enc)
/-- The given statement: the card. -/
theorem CronBack_holds : Rows.CronBackCardSaid :=
  Claim7.holds_tied_plain_at .later [] [.data, .data, .data, .data, .sentinel, .sentinel, .pinned] true (true, "df4fab26474276560c05aed426b0f5f118cdb3881b28e92c4ad566249eeccb1a") true overCronBack (fun _ h => by cases h) (by kernel_rfl) (fun _ h => by cases h) cronBack_row_tie rfl ⟨rfl, rfl⟩ (by kernel_rfl) rfl
    (fun f fn hf hfn => by
      obtain rfl : f = 8 := Option.some.inj ((show Tryz.prog.funcNamed Rows.cronBackRow.func = some 8 by kernel_rfl).symm.trans hf) |>.symm
      obtain rfl : fn = Tryz.f8 := (Option.some.inj (Tryz.func8.symm.trans hfn)).symm
      exact ⟨by kernel_rfl, fun j t ht => by
        rw [Tryz.params8] at ht
        have hm : t ∈ [27, 9] := by have := Array.mem_of_getElem? ht; simpa using this
        have hall : ([27, 9].all fun u => !Tryz.prog.wantsStandIn u) = true := by kernel_rfl
        exact (show Tryz.prog.wantsStandIn t = false by simpa using List.all_eq_true.1 hall t hm)⟩)
    (by kernel_rfl)
end Go.Proofs.YtpbfajkbkomfcaaGreatDoor
