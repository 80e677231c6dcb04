/-
  XmlTokens: the row, out of the walk and the plain law; and its card.
-/
import Derived.Test.YteokdkimegepoaaGreatDoorRows
import Derived.Test.YteokdkimegepoaaGreatDoorCards
import Derived.Test.YteokdkimegepoaaGreatDoorTie
import Derived.Test.YteokdkimegepoaaGreatDoorZXmlTokens6
import Derived.WalkKit
import Derived.ProofKit
import Derived.OpenShut
import Derived.ShutString
import Derived.ChangeOld
import Derived.Below
import Derived.LaidMore
import Derived.Lay
import Derived.SevenTiedAt
import Derived.Stop.Joined
namespace Go.Proofs.YteokdkimegepoaaGreatDoor
open Go.ChangeShapes Go.WideShapes Go.ChangeAt Go.RowKit
open Go.ChangeMaps (open_string shut_string)
set_option linter.unusedVariables false
theorem ownXmlTokens : ownKnob Tryz.prog.godebug = none := by kernel_rfl
theorem laidOutXmlTokens : laidOutB Tryz.prog = true := by kernel_rfl
theorem plainLaidXmlTokens : (Rows.xmlTokensRow.laid.all fun x => x.2.handleName?.isNone) = true := by kernel_rfl
/-- What the variables that the walk reads hold when the call begins. -/
theorem globsXmlTokens {W : World} (hsh : W.ShapedOpen Tryz.prog) (hL : laidMetH Tryz.prog Rows.xmlTokensRow.laid W) : ∀ g cs, Go.Av.G g = some cs → Go.Av.Rel (Go.Av.Info.start W) W (Go.Av.gv cs) (.pointer (some ⟨g, 0, none⟩)) := by
  rw [MakeChecks.laidMetH_plain _ _ _ plainLaidXmlTokens] at hL
  have x0 : ∃ m, W.cell? ⟨0, 0, none⟩ = some (.int .i64 m) := cell_of_shapedOpen_int (P := Tryz.prog) (g := 0) (t := 3) (zero := #[.int .i64 0]) hsh (of_decide_eq_true (by kernel_rfl)) (by kernel_rfl) rfl (by kernel_rfl) (by kernel_rfl) Tryz.underlying3
  have x3 : ∃ v, W.cell? ⟨3, 0, none⟩ = some v ∧ (v = .nilIface ∨ ∃ u y, v = .iface u y) := Go.Av.laid_iface (n := "strconv.ErrSyntax") (d := Rows.laid_strconv_ErrSyntax) hL (by simp [Rows.xmlTokensRow]) (by kernel_rfl) (by kernel_rfl) Tryz.underlying62
  have x4 : ∃ v, W.cell? ⟨4, 0, none⟩ = some v ∧ (v = .nilIface ∨ ∃ u y, v = .iface u y) := Go.Av.laid_iface (n := "strconv.ErrRange") (d := Rows.laid_strconv_ErrRange) hL (by simp [Rows.xmlTokensRow]) (by kernel_rfl) (by kernel_rfl) Tryz.underlying62
  intro g cs hG
  rcases g with _ | _ | _ | _ | _ | g
  · obtain rfl := Option.some.inj hG
    obtain ⟨m, hm⟩ := x0
    exact Go.Av.rel_var hm (.anyk _ _)
  · simp [Go.Av.G] at hG
  · simp [Go.Av.G] at hG
  · obtain rfl := Option.some.inj hG
    obtain ⟨v, hv, hk⟩ := x3
    exact Go.Av.rel_var hv (Go.Av.rel_anyi hk)
  · obtain rfl := Option.some.inj hG
    obtain ⟨v, hv, hk⟩ := x4
    exact Go.Av.rel_var hv (Go.Av.rel_anyi hk)
  · simp [Go.Av.G] at hG
set_option maxRecDepth 100000 in
theorem liftedXmlTokens (os : Os) (started : os.Started) (H : Type) (enc : TypeId × Value → H) :
    ReturnsInHanded {} Tryz.checked os 3 .any (fun w args => (Rows.xmlTokensSpec.pre enc Tryz.prog Tryz.f3 Rows.xmlTokensRow.domain false w args ∧ laidMetH Tryz.prog Rows.xmlTokensRow.laid w) ∧ sizedMet enc Tryz.prog Tryz.f3 (OpenSpec.ofChange Rows.xmlTokensSpec) false w args)
      (Rows.xmlTokensSpec.post enc Tryz.prog Tryz.f3 false true false false) := by
  refine Go.Av.returns_and_shaped (C := Tryz.checked) (X := fun w _ => laidMetH Tryz.prog Rows.xmlTokensRow.laid w) (fun _ _ _ hh h => h.of_heap hh) ownXmlTokens started (by kernel_rfl) Tryz.func3
    (ChangeSpec.witness_shaped (enc := enc) (C := Tryz.checked) (os := os) (X := fun w _ => laidMetH Tryz.prog Rows.xmlTokensRow.laid w) false (World.laidAll Tryz.prog os Rows.xmlTokensRow.laid) #[.slice none 0 0] 8 (World.laidAll_os _ _ _)
      (World.shaped_of_ZipB (by kernel_rfl) (by kernel_rfl)) (by kernel_rfl) (by kernel_rfl) (by kernel_rfl)
      (by rw [MakeChecks.laidMetH_plain _ _ _ plainLaidXmlTokens]; exact laidMet_laidAll _ (by kernel_rfl) (by kernel_rfl))) ?_
  intro W base args ds gs before hval0 hW hsh hL
  have hval : ∀ (j : Nat) t v, Tryz.f3.params[j]? = some t → args[j]? = some v → Value.okWide Tryz.prog W .any base t v := hval0
  have hW' := hW
  obtain ⟨p, q, hA0, hV, rfl, hfz, hnd⟩ := hW
  have hA : DataW.TrodAll enc Tryz.prog W 0 (fun _ => true) true Tryz.f3.params.toList args.toList ds p := hA0
  rw [Tryz.params3] at hA hval
  obtain ⟨v0, vs0, d0, ds0, p0, q0, hargs, rfl, rfl, h0, r0⟩ := trodAll_cons hA
  obtain ⟨rfl, rfl, rfl⟩ := trodAll_nil r0
  obtain rfl : args = #[v0] := by cases args; simp_all
  obtain ⟨rfl, rfl⟩ := trodVars_none hV
  have k0 := h0
  have lt0 : ∀ x ∈ p0, x.block < W.heap.size := by obtain ⟨m, hm⟩ := k0; exact DataW.trod_lt m _ _ _ hm
  obtain ⟨a0, len0, cap0, rfl⟩ := okWide_slice Tryz.underlying22 (hval 0 22 v0 rfl rfl)
  obtain ⟨l0, hl0, hm0, w0⟩ : ∃ l : List UInt8, l.length = len0 ∧ len0 ≤ maxLen ∧ Go.Av.Rel (Go.Av.Info.start W) W (Go.Av.slE Go.Av.Enc.byte l none) (.slice a0 len0 cap0) := by
    obtain ⟨fuel, hf⟩ := h0
    rcases open_ints Tryz.underlying22 Tryz.underlying5 (by kernel_rfl) hf with ⟨hcs, _⟩ | ⟨x, l, c, zs, hcs, _, hl, hm, hz, _, hcell, hwz⟩
    · simp [Value.cells] at hcs
      obtain ⟨rfl, rfl, rfl⟩ := hcs
      exact Go.Av.rel_bytes (.inl ⟨rfl, rfl, rfl, rfl⟩)
    · simp [Value.cells] at hcs
      obtain ⟨rfl, rfl, rfl⟩ := hcs
      exact Go.Av.rel_bytes (.inr ⟨_, rfl, hl, hm, by simpa using hz, hcell, hwz⟩)
  clear hA0 hval0
  refine (Go.Av.law_of (nj 2000000 (l0) none true (Go.Xm.XmlTokens_t (l0))) (Go.Av.RelL.cons w0 Go.Av.RelL.nil) (globsXmlTokens hsh hL)).mono fun e W' ⟨he, bel⟩ => ?_
  subst he
  exact ⟨_, rfl, _, _, _, [], _, [], hW', trodAll_mk1 (shut_bool Tryz.underlying4 _), (trodAll_cons_mk (Below.trod laidOutXmlTokens (by kernel_rfl) (of_decide_eq_true (by kernel_rfl)) k0 bel lt0) trodAll_mk0), rfl, bel.frame _, fun h => by cases h⟩
set_option maxRecDepth 100000
theorem jfXmlTokens0 : (Rows.xmlTokensRow.wf (OpenSpec.ofChange Rows.xmlTokensSpec)) = true := by kernel_rfl
theorem jfXmlTokens1 : (laidOutB Tryz.prog) = true := by kernel_rfl
theorem jfXmlTokens2 : (mapsRowed Tryz.prog) = true := by kernel_rfl
theorem jfXmlTokens3 : (Tryz.f3.params.all (Tryz.prog.readableRec ·)) = true := by kernel_rfl
theorem jfXmlTokens4 : (namedTie Tryz.prog Rows.xmlTokensRow.named Rows.xmlTokensSpec.vars) = true := by kernel_rfl
theorem jfXmlTokens5 : ((Rows.xmlTokensRow.stops == [])) = true := by kernel_rfl
theorem jfXmlTokens6 : ((Tryz.prog.stops == [])) = true := by kernel_rfl
theorem jfXmlTokens7 : ((Rows.xmlTokensRow.knobs == [])) = true := by kernel_rfl
theorem jfXmlTokens8 : ((Tryz.prog.stopKnobs == [])) = true := by kernel_rfl
theorem jfXmlTokens9 : ((Rows.xmlTokensRow.inPlace == Tryz.prog.inPlace 3)) = true := by kernel_rfl
theorem jfXmlTokens10 : ((Rows.xmlTokensRow.unfollowed == Tryz.prog.unfollowed 3)) = true := by kernel_rfl
theorem jfXmlTokens11 : ((Rows.xmlTokensRow.recurses == Tryz.prog.recurses 3)) = true := by kernel_rfl
theorem jfXmlTokens12 : ((Rows.xmlTokensRow.named == Tryz.prog.varsNamed 3)) = true := by kernel_rfl
theorem jfXmlTokens13 : ((Rows.xmlTokensRow.maps == (Tryz.f3.params.toList ++ Rows.xmlTokensSpec.plain.varTypes Tryz.prog).any (Tryz.prog.mapsRec ·))) = true := by kernel_rfl
theorem jfXmlTokens14 : ((Rows.xmlTokensRow.ifaces == (Tryz.f3.params.toList ++ Rows.xmlTokensSpec.plain.varTypes Tryz.prog).any (Tryz.prog.ifacesRec ·))) = true := by kernel_rfl
theorem jfXmlTokens15 : ((Rows.xmlTokensRow.mapsOut == Tryz.prog.mapsAmong Tryz.f3.resultTypes.toList)) = true := by kernel_rfl
theorem jfXmlTokens16 : ((Rows.xmlTokensRow.loops == (Tryz.f3.params.toList ++ Rows.xmlTokensSpec.plain.varTypes Tryz.prog).any (Tryz.prog.loopsFrom ·))) = true := by kernel_rfl
theorem jfXmlTokens17 : ((Rows.xmlTokensRow.wideKeys == (Tryz.f3.params.toList ++ Rows.xmlTokensSpec.plain.varTypes Tryz.prog ++ Tryz.f3.resultTypes.toList).any (Tryz.prog.wideKeysFrom ·))) = true := by kernel_rfl
theorem jfXmlTokens18 : (Rows.xmlTokensSpec.vars.all (Tryz.prog.varReadable ·)) = true := by kernel_rfl
theorem jfXmlTokens19 : (Tryz.f3.resultTypes.all (fun t => Tryz.prog.readableRec t && decide (t < Tryz.prog.types.size))) = true := by kernel_rfl
theorem jfXmlTokens20 : ((Rows.xmlTokensRow.ifacesOut == Tryz.f3.resultTypes.toList.any (Tryz.prog.ifacesRec ·))) = true := by kernel_rfl
theorem jfXmlTokens21 : ((Rows.xmlTokensRow.loopsOut == Tryz.f3.resultTypes.toList.any (Tryz.prog.loopsFrom ·))) = true := by kernel_rfl
theorem jfXmlTokens22 : ((Rows.xmlTokensRow.plainKeys == Tryz.prog.plainKeys)) = true := by kernel_rfl
theorem jfXmlTokens23 : (Rows.xmlTokensRow.shortTexts.isNone) = true := by kernel_rfl
theorem jfXmlTokens24 : (Tryz.prog.stopsHeard) = true := by kernel_rfl
theorem jfXmlTokens25 : (Tryz.prog.mayEnter) = true := by kernel_rfl
theorem jfXmlTokens26 : ((Rows.xmlTokensRow.lifted == Tryz.prog.liftsFinal)) = true := by kernel_rfl
theorem jfXmlTokens27 : ((Tryz.prog.make == some Rows.xmlTokensRow.make)) = true := by kernel_rfl
theorem jfXmlTokens28 : ((Rows.xmlTokensRow.kinds == (if Rows.xmlTokensRow.domain.isEmpty then [] else Tryz.f3.params.toList.map fun t => match Tryz.prog.underlying t with | some (.int k) => some k | _ => none))) = true := by kernel_rfl
theorem jfXmlTokens29 : ((Rows.xmlTokensRow.pinned == Rows.xmlTokensRow.pinnedBy)) = true := by kernel_rfl
theorem jfXmlTokens30 : ((Rows.xmlTokensRow.veiled == (Tryz.f3.params.toList ++ Rows.xmlTokensSpec.plain.varTypes Tryz.prog ++ Tryz.f3.resultTypes.toList).any (Tryz.prog.veiledRec ·))) = true := by kernel_rfl
theorem jfXmlTokens31 : (Rows.xmlTokensRow.veiledFits Tryz.prog Tryz.f3.params.toList (Tryz.f3.params.toList ++ Rows.xmlTokensSpec.plain.varTypes Tryz.prog ++ Tryz.f3.resultTypes.toList)) = true := by kernel_rfl
theorem jfXmlTokens : joinedFacts Tryz.prog 3 Tryz.f3 Rows.xmlTokensSpec Rows.xmlTokensRow = true := by
  unfold joinedFacts
  simp only [Bool.and_eq_true]
  exact ⟨⟨⟨⟨⟨⟨⟨⟨⟨⟨⟨⟨⟨⟨⟨⟨⟨⟨⟨⟨⟨⟨⟨⟨⟨⟨⟨⟨⟨⟨⟨jfXmlTokens0, jfXmlTokens1⟩, jfXmlTokens2⟩, jfXmlTokens3⟩, jfXmlTokens4⟩, jfXmlTokens5⟩, jfXmlTokens6⟩, jfXmlTokens7⟩, jfXmlTokens8⟩, jfXmlTokens9⟩, jfXmlTokens10⟩, jfXmlTokens11⟩, jfXmlTokens12⟩, jfXmlTokens13⟩, jfXmlTokens14⟩, jfXmlTokens15⟩, jfXmlTokens16⟩, jfXmlTokens17⟩, jfXmlTokens18⟩, jfXmlTokens19⟩, jfXmlTokens20⟩, jfXmlTokens21⟩, jfXmlTokens22⟩, jfXmlTokens23⟩, jfXmlTokens24⟩, jfXmlTokens25⟩, jfXmlTokens26⟩, jfXmlTokens27⟩, jfXmlTokens28⟩, jfXmlTokens29⟩, jfXmlTokens30⟩, jfXmlTokens31⟩
theorem overXmlTokens : Rows.xmlTokensRow.holds Tryz.pinned (OpenSpec.ofChange Rows.xmlTokensSpec) :=
  OpenClaim.holds_of_wide 3 Tryz.f3 rfl rfl rfl rfl rfl rfl rfl ⟨rfl, rfl, rfl, rfl, rfl⟩ rfl rfl rfl rfl rfl (by kernel_rfl) Tryz.func3 jfXmlTokens
    (of_decide_eq_true (by kernel_rfl)) (by unfold Func.isWrapper; first | (rw [if_pos (by decide +kernel)]; kernel_rfl) | (rw [if_neg (by decide +kernel)]; exact ⟨rfl, rfl⟩))
    (fun os started H enc _ => liftedXmlTokens os started H enc)
/-- The given statement: the card. -/
theorem XmlTokens_holds : Rows.XmlTokensCardSaid :=
  Claim7.holds_tied_plain_at .later [] [.data, .data, .data, .data, .sentinel, .sentinel, .pinned] true (true, "497d33d9d3c1b7ccad689684dba5f50efa6f58f2b680c6ec720330d92b7b9911") true overXmlTokens (fun _ h => by cases h) (by kernel_rfl) (fun _ h => by cases h) xmlTokens_row_tie rfl ⟨rfl, rfl⟩ (by kernel_rfl) rfl
    (fun f fn hf hfn => by
      obtain rfl : f = 3 := Option.some.inj ((show Tryz.prog.funcNamed Rows.xmlTokensRow.func = some 3 by kernel_rfl).symm.trans hf) |>.symm
      obtain rfl : fn = Tryz.f3 := (Option.some.inj (Tryz.func3.symm.trans hfn)).symm
      exact ⟨by kernel_rfl, fun j t ht => by
        rw [Tryz.params3] at ht
        have hm : t ∈ [22] := by have := Array.mem_of_getElem? ht; simpa using this
        have hall : ([22].all fun u => !Tryz.prog.wantsStandIn u) = true := by kernel_rfl
        exact (show Tryz.prog.wantsStandIn t = false by simpa using List.all_eq_true.1 hall t hm)⟩)
    (by kernel_rfl)
end Go.Proofs.YteokdkimegepoaaGreatDoor
