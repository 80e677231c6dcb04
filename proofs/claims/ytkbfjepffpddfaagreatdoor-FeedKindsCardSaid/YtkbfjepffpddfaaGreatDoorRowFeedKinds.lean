/-
  FeedKinds: the row, out of the walk and the plain law; and its card.
-/
import Derived.Test.YtkbfjepffpddfaaGreatDoorRows
import Derived.Test.YtkbfjepffpddfaaGreatDoorCards
import Derived.Test.YtkbfjepffpddfaaGreatDoorTie
import Derived.Test.YtkbfjepffpddfaaGreatDoorZFeedKinds5
import Derived.WalkKit
import Derived.ProofKit
import Derived.OpenShut
import Derived.ShutString
import Derived.ChangeOld
import Derived.Below
import Derived.LaidMore
import Derived.Lay
import Derived.SevenTiedAt
import Derived.Stop.Joined
namespace Go.Proofs.YtkbfjepffpddfaaGreatDoor
open Go.ChangeShapes Go.WideShapes Go.ChangeAt Go.RowKit
open Go.ChangeMaps (open_string shut_string)
set_option linter.unusedVariables false
theorem ownFeedKinds : ownKnob Tryz.prog.godebug = none := by kernel_rfl
theorem laidOutFeedKinds : laidOutB Tryz.prog = true := by kernel_rfl
theorem plainLaidFeedKinds : (Rows.feedKindsRow.laid.all fun x => x.2.handleName?.isNone) = true := by kernel_rfl
/-- What the variables that the walk reads hold when the call begins. -/
theorem globsFeedKinds {W : World} (hsh : W.ShapedOpen Tryz.prog) (hL : laidMetH Tryz.prog Rows.feedKindsRow.laid W) : ∀ g cs, Go.Av.G g = some cs → Go.Av.Rel (Go.Av.Info.start W) W (Go.Av.gv cs) (.pointer (some ⟨g, 0, none⟩)) := by
  rw [MakeChecks.laidMetH_plain _ _ _ plainLaidFeedKinds] at hL
  have x0 : ∃ m, W.cell? ⟨0, 0, none⟩ = some (.int .i64 m) := cell_of_shapedOpen_int (P := Tryz.prog) (g := 0) (t := 3) (zero := #[.int .i64 0]) hsh (of_decide_eq_true (by kernel_rfl)) (by kernel_rfl) rfl (by kernel_rfl) (by kernel_rfl) Tryz.underlying3
  have x3 : ∃ v, W.cell? ⟨3, 0, none⟩ = some v ∧ (v = .nilIface ∨ ∃ u y, v = .iface u y) := Go.Av.laid_iface (n := "strconv.ErrSyntax") (d := Rows.laid_strconv_ErrSyntax) hL (by simp [Rows.feedKindsRow]) (by kernel_rfl) (by kernel_rfl) Tryz.underlying53
  have x4 : ∃ v, W.cell? ⟨4, 0, none⟩ = some v ∧ (v = .nilIface ∨ ∃ u y, v = .iface u y) := Go.Av.laid_iface (n := "strconv.ErrRange") (d := Rows.laid_strconv_ErrRange) hL (by simp [Rows.feedKindsRow]) (by kernel_rfl) (by kernel_rfl) Tryz.underlying53
  intro g cs hG
  rcases g with _ | _ | _ | _ | _ | g
  · obtain rfl := Option.some.inj hG
    obtain ⟨m, hm⟩ := x0
    exact Go.Av.rel_var hm (.anyk _ _)
  · simp [Go.Av.G] at hG
  · simp [Go.Av.G] at hG
  · obtain rfl := Option.some.inj hG
    obtain ⟨v, hv, hk⟩ := x3
    exact Go.Av.rel_var hv (Go.Av.rel_anyi hk)
  · obtain rfl := Option.some.inj hG
    obtain ⟨v, hv, hk⟩ := x4
    exact Go.Av.rel_var hv (Go.Av.rel_anyi hk)
  · simp [Go.Av.G] at hG
set_option maxRecDepth 100000 in
theorem liftedFeedKinds (os : Os) (started : os.Started) (H : Type) (enc : TypeId × Value → H) :
    ReturnsInHanded {} Tryz.checked os 3 .any (fun w args => (Rows.feedKindsSpec.pre enc Tryz.prog Tryz.f3 Rows.feedKindsRow.domain false w args ∧ laidMetH Tryz.prog Rows.feedKindsRow.laid w) ∧ sizedMet enc Tryz.prog Tryz.f3 (OpenSpec.ofChange Rows.feedKindsSpec) false w args)
      (Rows.feedKindsSpec.post enc Tryz.prog Tryz.f3 false true false false) := by
  refine Go.Av.returns_and_shaped (C := Tryz.checked) (X := fun w _ => laidMetH Tryz.prog Rows.feedKindsRow.laid w) (fun _ _ _ hh h => h.of_heap hh) ownFeedKinds started (by kernel_rfl) Tryz.func3
    (ChangeSpec.witness_shaped (enc := enc) (C := Tryz.checked) (os := os) (X := fun w _ => laidMetH Tryz.prog Rows.feedKindsRow.laid w) false (World.laidAll Tryz.prog os Rows.feedKindsRow.laid) #[.string ByteArray.empty, .string ByteArray.empty, .string ByteArray.empty, .string ByteArray.empty] 8 (World.laidAll_os _ _ _)
      (World.shaped_of_ZipB (by kernel_rfl) (by kernel_rfl)) (by kernel_rfl) (by kernel_rfl) (by kernel_rfl)
      (by rw [MakeChecks.laidMetH_plain _ _ _ plainLaidFeedKinds]; exact laidMet_laidAll _ (by kernel_rfl) (by kernel_rfl))) ?_
  intro W base args ds gs before hval0 hW hsh hL
  have hval : ∀ (j : Nat) t v, Tryz.f3.params[j]? = some t → args[j]? = some v → Value.okWide Tryz.prog W .any base t v := hval0
  have hW' := hW
  obtain ⟨p, q, hA0, hV, rfl, hfz, hnd⟩ := hW
  have hA : DataW.TrodAll enc Tryz.prog W 0 (fun _ => true) true Tryz.f3.params.toList args.toList ds p := hA0
  rw [Tryz.params3] at hA hval
  obtain ⟨v0, vs0, d0, ds0, p0, q0, hargs, rfl, rfl, h0, r0⟩ := trodAll_cons hA
  obtain ⟨v1, vs1, d1, ds1, p1, q1, rfl, rfl, rfl, h1, r1⟩ := trodAll_cons r0
  obtain ⟨v2, vs2, d2, ds2, p2, q2, rfl, rfl, rfl, h2, r2⟩ := trodAll_cons r1
  obtain ⟨v3, vs3, d3, ds3, p3, q3, rfl, rfl, rfl, h3, r3⟩ := trodAll_cons r2
  obtain ⟨rfl, rfl, rfl⟩ := trodAll_nil r3
  obtain rfl : args = #[v0, v1, v2, v3] := by cases args; simp_all
  obtain ⟨rfl, rfl⟩ := trodVars_none hV
  have k0 := h0
  have lt0 : ∀ x ∈ p0, x.block < W.heap.size := by obtain ⟨m, hm⟩ := k0; exact DataW.trod_lt m _ _ _ hm
  have k1 := h1
  have lt1 : ∀ x ∈ p1, x.block < W.heap.size := by obtain ⟨m, hm⟩ := k1; exact DataW.trod_lt m _ _ _ hm
  have k2 := h2
  have lt2 : ∀ x ∈ p2, x.block < W.heap.size := by obtain ⟨m, hm⟩ := k2; exact DataW.trod_lt m _ _ _ hm
  have k3 := h3
  have lt3 : ∀ x ∈ p3, x.block < W.heap.size := by obtain ⟨m, hm⟩ := k3; exact DataW.trod_lt m _ _ _ hm
  obtain ⟨a0, rfl, rfl, rfl, w0⟩ := open_string Tryz.underlying9 (hval 0 9 v0 rfl rfl) h0
  obtain ⟨a1, rfl, rfl, rfl, w1⟩ := open_string Tryz.underlying9 (hval 1 9 v1 rfl rfl) h1
  obtain ⟨a2, rfl, rfl, rfl, w2⟩ := open_string Tryz.underlying9 (hval 2 9 v2 rfl rfl) h2
  obtain ⟨a3, rfl, rfl, rfl, w3⟩ := open_string Tryz.underlying9 (hval 3 9 v3 rfl rfl) h3
  clear hA0 hval0
  refine (Go.Av.law_of (pc (2000000 + ((a0.data.toList).length + (a1.data.toList).length + (a2.data.toList).length + (a3.data.toList).length)) (a0.data.toList) (a1.data.toList) (a2.data.toList) (a3.data.toList) true (Go.Fd.FeedKinds_t (2000000 + ((a0.data.toList).length + (a1.data.toList).length + (a2.data.toList).length + (a3.data.toList).length)) (by omega) (a0.data.toList) (a1.data.toList) (a2.data.toList) (a3.data.toList) (Go.Fd.mlen w0) (Go.Fd.mlen w1) (Go.Fd.mlen w2) (Go.Fd.mlen w3) (by omega) (by omega) (by omega) (by omega))) (Go.Av.RelL.cons (Go.Av.rel_string _ _ a0) (Go.Av.RelL.cons (Go.Av.rel_string _ _ a1) (Go.Av.RelL.cons (Go.Av.rel_string _ _ a2) (Go.Av.RelL.cons (Go.Av.rel_string _ _ a3) Go.Av.RelL.nil)))) (globsFeedKinds hsh hL)).mono fun e W' ⟨he, bel⟩ => ?_
  subst he
  exact ⟨_, rfl, _, _, _, [], _, [], hW', trodAll_mk1 (shut_bool Tryz.underlying4 _), (trodAll_cons_mk (Below.trod laidOutFeedKinds (by kernel_rfl) (of_decide_eq_true (by kernel_rfl)) k0 bel lt0) (trodAll_cons_mk (Below.trod laidOutFeedKinds (by kernel_rfl) (of_decide_eq_true (by kernel_rfl)) k1 bel lt1) (trodAll_cons_mk (Below.trod laidOutFeedKinds (by kernel_rfl) (of_decide_eq_true (by kernel_rfl)) k2 bel lt2) (trodAll_cons_mk (Below.trod laidOutFeedKinds (by kernel_rfl) (of_decide_eq_true (by kernel_rfl)) k3 bel lt3) trodAll_mk0)))), rfl, bel.frame _, fun h => by cases h⟩
set_option maxRecDepth 100000
theorem jfFeedKinds0 : (Rows.feedKindsRow.wf (OpenSpec.ofChange Rows.feedKindsSpec)) = true := by kernel_rfl
theorem jfFeedKinds1 : (laidOutB Tryz.prog) = true := by kernel_rfl
theorem jfFeedKinds2 : (mapsRowed Tryz.prog) = true := by kernel_rfl
theorem jfFeedKinds3 : (Tryz.f3.params.all (Tryz.prog.readableRec ·)) = true := by kernel_rfl
theorem jfFeedKinds4 : (namedTie Tryz.prog Rows.feedKindsRow.named Rows.feedKindsSpec.vars) = true := by kernel_rfl
theorem jfFeedKinds5 : ((Rows.feedKindsRow.stops == [])) = true := by kernel_rfl
theorem jfFeedKinds6 : ((Tryz.prog.stops == [])) = true := by kernel_rfl
theorem jfFeedKinds7 : ((Rows.feedKindsRow.knobs == [])) = true := by kernel_rfl
theorem jfFeedKinds8 : ((Tryz.prog.stopKnobs == [])) = true := by kernel_rfl
theorem jfFeedKinds9 : ((Rows.feedKindsRow.inPlace == Tryz.prog.inPlace 3)) = true := by kernel_rfl
theorem jfFeedKinds10 : ((Rows.feedKindsRow.unfollowed == Tryz.prog.unfollowed 3)) = true := by kernel_rfl
theorem jfFeedKinds11 : ((Rows.feedKindsRow.recurses == Tryz.prog.recurses 3)) = true := by kernel_rfl
theorem jfFeedKinds12 : ((Rows.feedKindsRow.named == Tryz.prog.varsNamed 3)) = true := by kernel_rfl
theorem jfFeedKinds13 : ((Rows.feedKindsRow.maps == (Tryz.f3.params.toList ++ Rows.feedKindsSpec.plain.varTypes Tryz.prog).any (Tryz.prog.mapsRec ·))) = true := by kernel_rfl
theorem jfFeedKinds14 : ((Rows.feedKindsRow.ifaces == (Tryz.f3.params.toList ++ Rows.feedKindsSpec.plain.varTypes Tryz.prog).any (Tryz.prog.ifacesRec ·))) = true := by kernel_rfl
theorem jfFeedKinds15 : ((Rows.feedKindsRow.mapsOut == Tryz.prog.mapsAmong Tryz.f3.resultTypes.toList)) = true := by kernel_rfl
theorem jfFeedKinds16 : ((Rows.feedKindsRow.loops == (Tryz.f3.params.toList ++ Rows.feedKindsSpec.plain.varTypes Tryz.prog).any (Tryz.prog.loopsFrom ·))) = true := by kernel_rfl
theorem jfFeedKinds17 : ((Rows.feedKindsRow.wideKeys == (Tryz.f3.params.toList ++ Rows.feedKindsSpec.plain.varTypes Tryz.prog ++ Tryz.f3.resultTypes.toList).any (Tryz.prog.wideKeysFrom ·))) = true := by kernel_rfl
theorem jfFeedKinds18 : (Rows.feedKindsSpec.vars.all (Tryz.prog.varReadable ·)) = true := by kernel_rfl
theorem jfFeedKinds19 : (Tryz.f3.resultTypes.all (fun t => Tryz.prog.readableRec t && decide (t < Tryz.prog.types.size))) = true := by kernel_rfl
theorem jfFeedKinds20 : ((Rows.feedKindsRow.ifacesOut == Tryz.f3.resultTypes.toList.any (Tryz.prog.ifacesRec ·))) = true := by kernel_rfl
theorem jfFeedKinds21 : ((Rows.feedKindsRow.loopsOut == Tryz.f3.resultTypes.toList.any (Tryz.prog.loopsFrom ·))) = true := by kernel_rfl
theorem jfFeedKinds22 : ((Rows.feedKindsRow.plainKeys == Tryz.prog.plainKeys)) = true := by kernel_rfl
theorem jfFeedKinds23 : (Rows.feedKindsRow.shortTexts.isNone) = true := by kernel_rfl
theorem jfFeedKinds24 : (Tryz.prog.stopsHeard) = true := by kernel_rfl
theorem jfFeedKinds25 : (Tryz.prog.mayEnter) = true := by kernel_rfl
theorem jfFeedKinds26 : ((Rows.feedKindsRow.lifted == Tryz.prog.liftsFinal)) = true := by kernel_rfl
theorem jfFeedKinds27 : ((Tryz.prog.make == some Rows.feedKindsRow.make)) = true := by kernel_rfl
theorem jfFeedKinds28 : ((Rows.feedKindsRow.kinds == (if Rows.feedKindsRow.domain.isEmpty then [] else Tryz.f3.params.toList.map fun t => match Tryz.prog.underlying t with | some (.int k) => some k | _ => none))) = true := by kernel_rfl
theorem jfFeedKinds29 : ((Rows.feedKindsRow.pinned == Rows.feedKindsRow.pinnedBy)) = true := by kernel_rfl
theorem jfFeedKinds30 : ((Rows.feedKindsRow.veiled == (Tryz.f3.params.toList ++ Rows.feedKindsSpec.plain.varTypes Tryz.prog ++ Tryz.f3.resultTypes.toList).any (Tryz.prog.veiledRec ·))) = true := by kernel_rfl
theorem jfFeedKinds31 : (Rows.feedKindsRow.veiledFits Tryz.prog Tryz.f3.params.toList (Tryz.f3.params.toList ++ Rows.feedKindsSpec.plain.varTypes Tryz.prog ++ Tryz.f3.resultTypes.toList)) = true := by kernel_rfl
theorem jfFeedKinds : joinedFacts Tryz.prog 3 Tryz.f3 Rows.feedKindsSpec Rows.feedKindsRow = true := by
  unfold joinedFacts
  simp only [Bool.and_eq_true]
  exact ⟨⟨⟨⟨⟨⟨⟨⟨⟨⟨⟨⟨⟨⟨⟨⟨⟨⟨⟨⟨⟨⟨⟨⟨⟨⟨⟨⟨⟨⟨⟨jfFeedKinds0, jfFeedKinds1⟩, jfFeedKinds2⟩, jfFeedKinds3⟩, jfFeedKinds4⟩, jfFeedKinds5⟩, jfFeedKinds6⟩, jfFeedKinds7⟩, jfFeedKinds8⟩, jfFeedKinds9⟩, jfFeedKinds10⟩, jfFeedKinds11⟩, jfFeedKinds12⟩, jfFeedKinds13⟩, jfFeedKinds14⟩, jfFeedKinds15⟩, jfFeedKinds16⟩, jfFeedKinds17⟩, jfFeedKinds18⟩, jfFeedKinds19⟩, jfFeedKinds20⟩, jfFeedKinds21⟩, jfFeedKinds22⟩, jfFeedKinds23⟩, jfFeedKinds24⟩, jfFeedKinds25⟩, jfFeedKinds26⟩, jfFeedKinds27⟩, jfFeedKinds28⟩, jfFeedKinds29⟩, jfFeedKinds30⟩, jfFeedKinds31⟩
theorem overFeedKinds : Rows.feedKindsRow.holds Tryz.pinned (OpenSpec.ofChange Rows.feedKindsSpec) :=
  OpenClaim.holds_of_wide 3 Tryz.f3 rfl rfl rfl rfl rfl rfl rfl ⟨rfl, rfl, rfl, rfl, rfl⟩ rfl rfl rfl rfl rfl (by kernel_rfl) Tryz.func3 jfFeedKinds
    (of_decide_eq_true (by kernel_rfl)) (by unfold Func.isWrapper; first | (rw [if_pos (by decide +kernel)]; kernel_rfl) | (rw [if_neg (by decide +kernel)]; exact ⟨rfl, rfl⟩))
    (fun os started H enc _ => liftedFeedKinds os started H enc)
/-- The given statement: the card. -/
theorem FeedKinds_holds : Rows.FeedKindsCardSaid :=
  Claim7.holds_tied_plain_at .later [] [.data, .data, .data, .data, .sentinel, .sentinel, .pinned] true (true, "b1df91f58ad98c9f12fd3e5e2837632f95de86d186ef17aa69457650c485151d") true overFeedKinds (fun _ h => by cases h) (by kernel_rfl) (fun _ h => by cases h) feedKinds_row_tie rfl ⟨rfl, rfl⟩ (by kernel_rfl) rfl
    (fun f fn hf hfn => by
      obtain rfl : f = 3 := Option.some.inj ((show Tryz.prog.funcNamed Rows.feedKindsRow.func = some 3 by kernel_rfl).symm.trans hf) |>.symm
      obtain rfl : fn = Tryz.f3 := (Option.some.inj (Tryz.func3.symm.trans hfn)).symm
      exact ⟨by kernel_rfl, fun j t ht => by
        rw [Tryz.params3] at ht
        have hm : t ∈ [9] := by have := Array.mem_of_getElem? ht; simpa using this
        have hall : ([9].all fun u => !Tryz.prog.wantsStandIn u) = true := by kernel_rfl
        exact (show Tryz.prog.wantsStandIn t = false by simpa using List.all_eq_true.1 hall t hm)⟩)
    (by kernel_rfl)
end Go.Proofs.YtkbfjepffpddfaaGreatDoor
