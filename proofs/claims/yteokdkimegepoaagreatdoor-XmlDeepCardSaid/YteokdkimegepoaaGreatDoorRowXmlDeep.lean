/-
  XmlDeep: the row, out of the walk and the plain law; and its card.
-/
import Derived.Test.YteokdkimegepoaaGreatDoorRows
import Derived.Test.YteokdkimegepoaaGreatDoorCards
import Derived.Test.YteokdkimegepoaaGreatDoorTie
import Derived.Test.YteokdkimegepoaaGreatDoorZXmlDeep4
import Derived.WalkKit
import Derived.ProofKit
import Derived.OpenShut
import Derived.ShutString
import Derived.ChangeOld
import Derived.Below
import Derived.LaidMore
import Derived.Lay
import Derived.SevenTiedAt
import Derived.Stop.Joined
namespace Go.Proofs.YteokdkimegepoaaGreatDoor
open Go.ChangeShapes Go.WideShapes Go.ChangeAt Go.RowKit
open Go.ChangeMaps (open_string shut_string)
set_option linter.unusedVariables false
theorem ownXmlDeep : ownKnob Tryz.prog.godebug = none := by kernel_rfl
theorem laidOutXmlDeep : laidOutB Tryz.prog = true := by kernel_rfl
theorem plainLaidXmlDeep : (Rows.xmlDeepRow.laid.all fun x => x.2.handleName?.isNone) = true := by kernel_rfl
/-- What the variables that the walk reads hold when the call begins. -/
theorem globsXmlDeep {W : World} (hsh : W.ShapedOpen Tryz.prog) (hL : laidMetH Tryz.prog Rows.xmlDeepRow.laid W) : ∀ g cs, Go.Av.G g = some cs → Go.Av.Rel (Go.Av.Info.start W) W (Go.Av.gv cs) (.pointer (some ⟨g, 0, none⟩)) := by
  rw [MakeChecks.laidMetH_plain _ _ _ plainLaidXmlDeep] at hL
  have x0 : ∃ m, W.cell? ⟨0, 0, none⟩ = some (.int .i64 m) := cell_of_shapedOpen_int (P := Tryz.prog) (g := 0) (t := 3) (zero := #[.int .i64 0]) hsh (of_decide_eq_true (by kernel_rfl)) (by kernel_rfl) rfl (by kernel_rfl) (by kernel_rfl) Tryz.underlying3
  have x3 : ∃ v, W.cell? ⟨3, 0, none⟩ = some v ∧ (v = .nilIface ∨ ∃ u y, v = .iface u y) := Go.Av.laid_iface (n := "strconv.ErrSyntax") (d := Rows.laid_strconv_ErrSyntax) hL (by simp [Rows.xmlDeepRow]) (by kernel_rfl) (by kernel_rfl) Tryz.underlying62
  have x4 : ∃ v, W.cell? ⟨4, 0, none⟩ = some v ∧ (v = .nilIface ∨ ∃ u y, v = .iface u y) := Go.Av.laid_iface (n := "strconv.ErrRange") (d := Rows.laid_strconv_ErrRange) hL (by simp [Rows.xmlDeepRow]) (by kernel_rfl) (by kernel_rfl) Tryz.underlying62
  intro g cs hG
  rcases g with _ | _ | _ | _ | _ | g
  · obtain rfl := Option.some.inj hG
    obtain ⟨m, hm⟩ := x0
    exact Go.Av.rel_var hm (.anyk _ _)
  · simp [Go.Av.G] at hG
  · simp [Go.Av.G] at hG
  · obtain rfl := Option.some.inj hG
    obtain ⟨v, hv, hk⟩ := x3
    exact Go.Av.rel_var hv (Go.Av.rel_anyi hk)
  · obtain rfl := Option.some.inj hG
    obtain ⟨v, hv, hk⟩ := x4
    exact Go.Av.rel_var hv (Go.Av.rel_anyi hk)
  · simp [Go.Av.G] at hG
set_option maxRecDepth 100000 in
theorem liftedXmlDeep (os : Os) (started : os.Started) (H : Type) (enc : TypeId × Value → H) :
    ReturnsInHanded {} Tryz.checked os 5 .any (fun w args => (Rows.xmlDeepSpec.pre enc Tryz.prog Tryz.f5 Rows.xmlDeepRow.domain false w args ∧ laidMetH Tryz.prog Rows.xmlDeepRow.laid w) ∧ sizedMet enc Tryz.prog Tryz.f5 (OpenSpec.ofChange Rows.xmlDeepSpec) false w args)
      (Rows.xmlDeepSpec.post enc Tryz.prog Tryz.f5 false true false false) := by
  refine Go.Av.returns_and_shaped (C := Tryz.checked) (X := fun w _ => laidMetH Tryz.prog Rows.xmlDeepRow.laid w) (fun _ _ _ hh h => h.of_heap hh) ownXmlDeep started (by kernel_rfl) Tryz.func5
    (ChangeSpec.witness_shaped (enc := enc) (C := Tryz.checked) (os := os) (X := fun w _ => laidMetH Tryz.prog Rows.xmlDeepRow.laid w) false (World.laidAll Tryz.prog os Rows.xmlDeepRow.laid) #[.int .i64 0, .bool false] 8 (World.laidAll_os _ _ _)
      (World.shaped_of_ZipB (by kernel_rfl) (by kernel_rfl)) (by kernel_rfl) (by kernel_rfl) (by kernel_rfl)
      (by rw [MakeChecks.laidMetH_plain _ _ _ plainLaidXmlDeep]; exact laidMet_laidAll _ (by kernel_rfl) (by kernel_rfl))) ?_
  intro W base args ds gs before hval0 hW hsh hL
  have hval : ∀ (j : Nat) t v, Tryz.f5.params[j]? = some t → args[j]? = some v → Value.okWide Tryz.prog W .any base t v := hval0
  have hW' := hW
  obtain ⟨p, q, hA0, hV, rfl, hfz, hnd⟩ := hW
  have hA : DataW.TrodAll enc Tryz.prog W 0 (fun _ => true) true Tryz.f5.params.toList args.toList ds p := hA0
  rw [Tryz.params5] at hA hval
  obtain ⟨v0, vs0, d0, ds0, p0, q0, hargs, rfl, rfl, h0, r0⟩ := trodAll_cons hA
  obtain ⟨v1, vs1, d1, ds1, p1, q1, rfl, rfl, rfl, h1, r1⟩ := trodAll_cons r0
  obtain ⟨rfl, rfl, rfl⟩ := trodAll_nil r1
  obtain rfl : args = #[v0, v1] := by cases args; simp_all
  obtain ⟨rfl, rfl⟩ := trodVars_none hV
  have k0 := h0
  have lt0 : ∀ x ∈ p0, x.block < W.heap.size := by obtain ⟨m, hm⟩ := k0; exact DataW.trod_lt m _ _ _ hm
  have k1 := h1
  have lt1 : ∀ x ∈ p1, x.block < W.heap.size := by obtain ⟨m, hm⟩ := k1; exact DataW.trod_lt m _ _ _ hm
  obtain ⟨a0, rfl, rfl, rfl, w0⟩ := open_int Tryz.underlying3 (hval 0 3 v0 rfl rfl) h0
  obtain ⟨a1, rfl, rfl, rfl⟩ := open_bool Tryz.underlying4 (hval 1 4 v1 rfl rfl) h1
  clear hA0 hval0
  refine (Go.Av.law_of (ma 2000000 (a0) (a1) true (Go.Xm.XmlDeep_t (a0) (a1))) (Go.Av.RelL.cons (.v _) (Go.Av.RelL.cons (.v _) Go.Av.RelL.nil)) (globsXmlDeep hsh hL)).mono fun e W' ⟨he, bel⟩ => ?_
  subst he
  exact ⟨_, rfl, _, _, _, [], _, [], hW', trodAll_mk1 (shut_bool Tryz.underlying4 _), (trodAll_cons_mk (Below.trod laidOutXmlDeep (by kernel_rfl) (of_decide_eq_true (by kernel_rfl)) k0 bel lt0) (trodAll_cons_mk (Below.trod laidOutXmlDeep (by kernel_rfl) (of_decide_eq_true (by kernel_rfl)) k1 bel lt1) trodAll_mk0)), rfl, bel.frame _, fun h => by cases h⟩
set_option maxRecDepth 100000
theorem jfXmlDeep0 : (Rows.xmlDeepRow.wf (OpenSpec.ofChange Rows.xmlDeepSpec)) = true := by kernel_rfl
theorem jfXmlDeep1 : (laidOutB Tryz.prog) = true := by kernel_rfl
theorem jfXmlDeep2 : (mapsRowed Tryz.prog) = true := by kernel_rfl
theorem jfXmlDeep3 : (Tryz.f5.params.all (Tryz.prog.readableRec ·)) = true := by kernel_rfl
theorem jfXmlDeep4 : (namedTie Tryz.prog Rows.xmlDeepRow.named Rows.xmlDeepSpec.vars) = true := by kernel_rfl
theorem jfXmlDeep5 : ((Rows.xmlDeepRow.stops == [])) = true := by kernel_rfl
theorem jfXmlDeep6 : ((Tryz.prog.stops == [])) = true := by kernel_rfl
theorem jfXmlDeep7 : ((Rows.xmlDeepRow.knobs == [])) = true := by kernel_rfl
theorem jfXmlDeep8 : ((Tryz.prog.stopKnobs == [])) = true := by kernel_rfl
theorem jfXmlDeep9 : ((Rows.xmlDeepRow.inPlace == Tryz.prog.inPlace 5)) = true := by kernel_rfl
theorem jfXmlDeep10 : ((Rows.xmlDeepRow.unfollowed == Tryz.prog.unfollowed 5)) = true := by kernel_rfl
theorem jfXmlDeep11 : ((Rows.xmlDeepRow.recurses == Tryz.prog.recurses 5)) = true := by kernel_rfl
theorem jfXmlDeep12 : ((Rows.xmlDeepRow.named == Tryz.prog.varsNamed 5)) = true := by kernel_rfl
theorem jfXmlDeep13 : ((Rows.xmlDeepRow.maps == (Tryz.f5.params.toList ++ Rows.xmlDeepSpec.plain.varTypes Tryz.prog).any (Tryz.prog.mapsRec ·))) = true := by kernel_rfl
theorem jfXmlDeep14 : ((Rows.xmlDeepRow.ifaces == (Tryz.f5.params.toList ++ Rows.xmlDeepSpec.plain.varTypes Tryz.prog).any (Tryz.prog.ifacesRec ·))) = true := by kernel_rfl
theorem jfXmlDeep15 : ((Rows.xmlDeepRow.mapsOut == Tryz.prog.mapsAmong Tryz.f5.resultTypes.toList)) = true := by kernel_rfl
theorem jfXmlDeep16 : ((Rows.xmlDeepRow.loops == (Tryz.f5.params.toList ++ Rows.xmlDeepSpec.plain.varTypes Tryz.prog).any (Tryz.prog.loopsFrom ·))) = true := by kernel_rfl
theorem jfXmlDeep17 : ((Rows.xmlDeepRow.wideKeys == (Tryz.f5.params.toList ++ Rows.xmlDeepSpec.plain.varTypes Tryz.prog ++ Tryz.f5.resultTypes.toList).any (Tryz.prog.wideKeysFrom ·))) = true := by kernel_rfl
theorem jfXmlDeep18 : (Rows.xmlDeepSpec.vars.all (Tryz.prog.varReadable ·)) = true := by kernel_rfl
theorem jfXmlDeep19 : (Tryz.f5.resultTypes.all (fun t => Tryz.prog.readableRec t && decide (t < Tryz.prog.types.size))) = true := by kernel_rfl
theorem jfXmlDeep20 : ((Rows.xmlDeepRow.ifacesOut == Tryz.f5.resultTypes.toList.any (Tryz.prog.ifacesRec ·))) = true := by kernel_rfl
theorem jfXmlDeep21 : ((Rows.xmlDeepRow.loopsOut == Tryz.f5.resultTypes.toList.any (Tryz.prog.loopsFrom ·))) = true := by kernel_rfl
theorem jfXmlDeep22 : ((Rows.xmlDeepRow.plainKeys == Tryz.prog.plainKeys)) = true := by kernel_rfl
theorem jfXmlDeep23 : (Rows.xmlDeepRow.shortTexts.isNone) = true := by kernel_rfl
theorem jfXmlDeep24 : (Tryz.prog.stopsHeard) = true := by kernel_rfl
theorem jfXmlDeep25 : (Tryz.prog.mayEnter) = true := by kernel_rfl
theorem jfXmlDeep26 : ((Rows.xmlDeepRow.lifted == Tryz.prog.liftsFinal)) = true := by kernel_rfl
theorem jfXmlDeep27 : ((Tryz.prog.make == some Rows.xmlDeepRow.make)) = true := by kernel_rfl
theorem jfXmlDeep28 : ((Rows.xmlDeepRow.kinds == (if Rows.xmlDeepRow.domain.isEmpty then [] else Tryz.f5.params.toList.map fun t => match Tryz.prog.underlying t with | some (.int k) => some k | _ => none))) = true := by kernel_rfl
theorem jfXmlDeep29 : ((Rows.xmlDeepRow.pinned == Rows.xmlDeepRow.pinnedBy)) = true := by kernel_rfl
theorem jfXmlDeep30 : ((Rows.xmlDeepRow.veiled == (Tryz.f5.params.toList ++ Rows.xmlDeepSpec.plain.varTypes Tryz.prog ++ Tryz.f5.resultTypes.toList).any (Tryz.prog.veiledRec ·))) = true := by kernel_rfl
theorem jfXmlDeep31 : (Rows.xmlDeepRow.veiledFits Tryz.prog Tryz.f5.params.toList (Tryz.f5.params.toList ++ Rows.xmlDeepSpec.plain.varTypes Tryz.prog ++ Tryz.f5.resultTypes.toList)) = true := by kernel_rfl
theorem jfXmlDeep : joinedFacts Tryz.prog 5 Tryz.f5 Rows.xmlDeepSpec Rows.xmlDeepRow = true := by
  unfold joinedFacts
  simp only [Bool.and_eq_true]
  exact ⟨⟨⟨⟨⟨⟨⟨⟨⟨⟨⟨⟨⟨⟨⟨⟨⟨⟨⟨⟨⟨⟨⟨⟨⟨⟨⟨⟨⟨⟨⟨jfXmlDeep0, jfXmlDeep1⟩, jfXmlDeep2⟩, jfXmlDeep3⟩, jfXmlDeep4⟩, jfXmlDeep5⟩, jfXmlDeep6⟩, jfXmlDeep7⟩, jfXmlDeep8⟩, jfXmlDeep9⟩, jfXmlDeep10⟩, jfXmlDeep11⟩, jfXmlDeep12⟩, jfXmlDeep13⟩, jfXmlDeep14⟩, jfXmlDeep15⟩, jfXmlDeep16⟩, jfXmlDeep17⟩, jfXmlDeep18⟩, jfXmlDeep19⟩, jfXmlDeep20⟩, jfXmlDeep21⟩, jfXmlDeep22⟩, jfXmlDeep23⟩, jfXmlDeep24⟩, jfXmlDeep25⟩, jfXmlDeep26⟩, jfXmlDeep27⟩, jfXmlDeep28⟩, jfXmlDeep29⟩, jfXmlDeep30⟩, jfXmlDeep31⟩
theorem overXmlDeep : Rows.xmlDeepRow.holds Tryz.pinned (OpenSpec.ofChange Rows.xmlDeepSpec) :=
  OpenClaim.holds_of_wide 5 Tryz.f5 rfl rfl rfl rfl rfl rfl rfl ⟨rfl, rfl, rfl, rfl, rfl⟩ rfl rfl rfl rfl rfl (by kernel_rfl) Tryz.func5 jfXmlDeep
    (of_decide_eq_true (by kernel_rfl)) (by unfold Func.isWrapper; first | (rw [if_pos (by decide +kernel)]; kernel_rfl) | (rw [if_neg (by decide +kernel)]; exact ⟨rfl, rfl⟩))
    (fun os started H enc _ => liftedXmlDeep os started H enc)
/-- The given statement: the card. -/
theorem XmlDeep_holds : Rows.XmlDeepCardSaid :=
  Claim7.holds_tied_plain_at .later [] [.data, .data, .data, .data, .sentinel, .sentinel, .pinned] true (true, "497d33d9d3c1b7ccad689684dba5f50efa6f58f2b680c6ec720330d92b7b9911") true overXmlDeep (fun _ h => by cases h) (by kernel_rfl) (fun _ h => by cases h) xmlDeep_row_tie rfl ⟨rfl, rfl⟩ (by kernel_rfl) rfl
    (fun f fn hf hfn => by
      obtain rfl : f = 5 := Option.some.inj ((show Tryz.prog.funcNamed Rows.xmlDeepRow.func = some 5 by kernel_rfl).symm.trans hf) |>.symm
      obtain rfl : fn = Tryz.f5 := (Option.some.inj (Tryz.func5.symm.trans hfn)).symm
      exact ⟨by kernel_rfl, fun j t ht => by
        rw [Tryz.params5] at ht
        have hm : t ∈ [3, 4] := by have := Array.mem_of_getElem? ht; simpa using this
        have hall : ([3, 4].all fun u => !Tryz.prog.wantsStandIn u) = true := by kernel_rfl
        exact (show Tryz.prog.wantsStandIn t = false by simpa using List.all_eq_true.1 hall t hm)⟩)
    (by kernel_rfl)
end Go.Proofs.YteokdkimegepoaaGreatDoor
