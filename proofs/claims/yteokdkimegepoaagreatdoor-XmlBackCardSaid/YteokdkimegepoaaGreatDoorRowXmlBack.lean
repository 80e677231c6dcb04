/-
  XmlBack: the row, out of the walk and the plain law; and its card.
-/
import Derived.Test.YteokdkimegepoaaGreatDoorRows
import Derived.Test.YteokdkimegepoaaGreatDoorCards
import Derived.Test.YteokdkimegepoaaGreatDoorTie
import Derived.Test.YteokdkimegepoaaGreatDoorZXmlBack5
import Derived.WalkKit
import Derived.ProofKit
import Derived.OpenShut
import Derived.ShutString
import Derived.ChangeOld
import Derived.Below
import Derived.LaidMore
import Derived.Lay
import Derived.SevenTiedAt
import Derived.Stop.Joined
namespace Go.Proofs.YteokdkimegepoaaGreatDoor
open Go.ChangeShapes Go.WideShapes Go.ChangeAt Go.RowKit
open Go.ChangeMaps (open_string shut_string)
set_option linter.unusedVariables false
theorem ownXmlBack : ownKnob Tryz.prog.godebug = none := by kernel_rfl
theorem laidOutXmlBack : laidOutB Tryz.prog = true := by kernel_rfl
theorem plainLaidXmlBack : (Rows.xmlBackRow.laid.all fun x => x.2.handleName?.isNone) = true := by kernel_rfl
/-- What the variables that the walk reads hold when the call begins. -/
theorem globsXmlBack {W : World} (hsh : W.ShapedOpen Tryz.prog) (hL : laidMetH Tryz.prog Rows.xmlBackRow.laid W) : ∀ g cs, Go.Av.G g = some cs → Go.Av.Rel (Go.Av.Info.start W) W (Go.Av.gv cs) (.pointer (some ⟨g, 0, none⟩)) := by
  rw [MakeChecks.laidMetH_plain _ _ _ plainLaidXmlBack] at hL
  have x0 : ∃ m, W.cell? ⟨0, 0, none⟩ = some (.int .i64 m) := cell_of_shapedOpen_int (P := Tryz.prog) (g := 0) (t := 3) (zero := #[.int .i64 0]) hsh (of_decide_eq_true (by kernel_rfl)) (by kernel_rfl) rfl (by kernel_rfl) (by kernel_rfl) Tryz.underlying3
  have x3 : ∃ v, W.cell? ⟨3, 0, none⟩ = some v ∧ (v = .nilIface ∨ ∃ u y, v = .iface u y) := Go.Av.laid_iface (n := "strconv.ErrSyntax") (d := Rows.laid_strconv_ErrSyntax) hL (by simp [Rows.xmlBackRow]) (by kernel_rfl) (by kernel_rfl) Tryz.underlying62
  have x4 : ∃ v, W.cell? ⟨4, 0, none⟩ = some v ∧ (v = .nilIface ∨ ∃ u y, v = .iface u y) := Go.Av.laid_iface (n := "strconv.ErrRange") (d := Rows.laid_strconv_ErrRange) hL (by simp [Rows.xmlBackRow]) (by kernel_rfl) (by kernel_rfl) Tryz.underlying62
  intro g cs hG
  rcases g with _ | _ | _ | _ | _ | g
  · obtain rfl := Option.some.inj hG
    obtain ⟨m, hm⟩ := x0
    exact Go.Av.rel_var hm (.anyk _ _)
  · simp [Go.Av.G] at hG
  · simp [Go.Av.G] at hG
  · obtain rfl := Option.some.inj hG
    obtain ⟨v, hv, hk⟩ := x3
    exact Go.Av.rel_var hv (Go.Av.rel_anyi hk)
  · obtain rfl := Option.some.inj hG
    obtain ⟨v, hv, hk⟩ := x4
    exact Go.Av.rel_var hv (Go.Av.rel_anyi hk)
  · simp [Go.Av.G] at hG
set_option maxRecDepth 100000 in
theorem liftedXmlBack (os : Os) (started : os.Started) (H : Type) (enc : TypeId × Value → H) :
    ReturnsInHanded {} Tryz.checked os 8 .any (fun w args => (Rows.xmlBackSpec.pre enc Tryz.prog Tryz.f8 Rows.xmlBackRow.domain false w args ∧ laidMetH Tryz.prog Rows.xmlBackRow.laid w) ∧ sizedMet enc Tryz.prog Tryz.f8 (OpenSpec.ofChange Rows.xmlBackSpec) false w args)
      (Rows.xmlBackSpec.post enc Tryz.prog Tryz.f8 false true false false) := by
  refine Go.Av.returns_and_shaped (C := Tryz.checked) (X := fun w _ => laidMetH Tryz.prog Rows.xmlBackRow.laid w) (fun _ _ _ hh h => h.of_heap hh) ownXmlBack started (by kernel_rfl) Tryz.func8
    (ChangeSpec.witness_shaped (enc := enc) (C := Tryz.checked) (os := os) (X := fun w _ => laidMetH Tryz.prog Rows.xmlBackRow.laid w) false (World.laidAll Tryz.prog os Rows.xmlBackRow.laid) #[.slice none 0 0, .slice none 0 0] 8 (World.laidAll_os _ _ _)
      (World.shaped_of_ZipB (by kernel_rfl) (by kernel_rfl)) (by kernel_rfl) (by kernel_rfl) (by kernel_rfl)
      (by rw [MakeChecks.laidMetH_plain _ _ _ plainLaidXmlBack]; exact laidMet_laidAll _ (by kernel_rfl) (by kernel_rfl))) ?_
  intro W base args ds gs before hval0 hW hsh hL
  have hval : ∀ (j : Nat) t v, Tryz.f8.params[j]? = some t → args[j]? = some v → Value.okWide Tryz.prog W .any base t v := hval0
  have hW' := hW
  obtain ⟨p, q, hA0, hV, rfl, hfz, hnd⟩ := hW
  have hA : DataW.TrodAll enc Tryz.prog W 0 (fun _ => true) true Tryz.f8.params.toList args.toList ds p := hA0
  rw [Tryz.params8] at hA hval
  obtain ⟨v0, vs0, d0, ds0, p0, q0, hargs, rfl, rfl, h0, r0⟩ := trodAll_cons hA
  obtain ⟨v1, vs1, d1, ds1, p1, q1, rfl, rfl, rfl, h1, r1⟩ := trodAll_cons r0
  obtain ⟨rfl, rfl, rfl⟩ := trodAll_nil r1
  obtain rfl : args = #[v0, v1] := by cases args; simp_all
  obtain ⟨rfl, rfl⟩ := trodVars_none hV
  have k0 := h0
  have lt0 : ∀ x ∈ p0, x.block < W.heap.size := by obtain ⟨m, hm⟩ := k0; exact DataW.trod_lt m _ _ _ hm
  have k1 := h1
  have lt1 : ∀ x ∈ p1, x.block < W.heap.size := by obtain ⟨m, hm⟩ := k1; exact DataW.trod_lt m _ _ _ hm
  obtain ⟨a0, len0, cap0, rfl⟩ := okWide_slice Tryz.underlying24 (hval 0 24 v0 rfl rfl)
  obtain ⟨l0, _, w0⟩ := Go.Av.one_of (P := Tryz.prog) (w := W) rfl h0 (Go.Av.opens_slice (Go.Av.Enc.prod (Go.Av.Enc.int) (Go.Av.Enc.prod (Go.Av.Enc.str) (Go.Av.Enc.prod (Go.Av.Enc.str) (Go.Av.Enc.sl (Go.Av.Enc.prod (Go.Av.Enc.str) (Go.Av.Enc.str)))))) (fun (x : (Int × List UInt8 × List UInt8 × List ((List UInt8) × List UInt8) × Unit)) => (x.1, x.2.1, x.2.2.1, x.2.2.2.1)) Tryz.underlying24 (by kernel_rfl) (Go.Av.opens_struct (tot := 4) Tryz.underlying33 (by kernel_rfl) (Go.Av.opensF_cons (k := 1) rfl (by kernel_rfl) (Go.Av.opens_int Tryz.underlying3) (Go.Av.opensF_cons (k := 1) rfl (by kernel_rfl) (Go.Av.opens_str Tryz.underlying9) (Go.Av.opensF_cons (k := 1) rfl (by kernel_rfl) (Go.Av.opens_str Tryz.underlying9) (Go.Av.opensF_cons (k := 1) rfl (by kernel_rfl) (Go.Av.opens_slice (Go.Av.Enc.prod (Go.Av.Enc.str) (Go.Av.Enc.str)) (fun (x : (List UInt8 × List UInt8 × Unit)) => (x.1, x.2.1)) Tryz.underlying31 (by kernel_rfl) (Go.Av.opens_struct (tot := 2) Tryz.underlying44 (by kernel_rfl) (Go.Av.opensF_cons (k := 1) rfl (by kernel_rfl) (Go.Av.opens_str Tryz.underlying9) (Go.Av.opensF_cons (k := 1) rfl (by kernel_rfl) (Go.Av.opens_str Tryz.underlying9) (Go.Av.opensF_nil (tot := 2))))) (fun _ => rfl)) (Go.Av.opensF_nil (tot := 4))))))) (fun _ => rfl))
  obtain ⟨a1, len1, cap1, rfl⟩ := okWide_slice Tryz.underlying22 (hval 1 22 v1 rfl rfl)
  obtain ⟨l1, hl1, hm1, w1⟩ : ∃ l : List UInt8, l.length = len1 ∧ len1 ≤ maxLen ∧ Go.Av.Rel (Go.Av.Info.start W) W (Go.Av.slE Go.Av.Enc.byte l none) (.slice a1 len1 cap1) := by
    obtain ⟨fuel, hf⟩ := h1
    rcases open_ints Tryz.underlying22 Tryz.underlying5 (by kernel_rfl) hf with ⟨hcs, _⟩ | ⟨x, l, c, zs, hcs, _, hl, hm, hz, _, hcell, hwz⟩
    · simp [Value.cells] at hcs
      obtain ⟨rfl, rfl, rfl⟩ := hcs
      exact Go.Av.rel_bytes (.inl ⟨rfl, rfl, rfl, rfl⟩)
    · simp [Value.cells] at hcs
      obtain ⟨rfl, rfl, rfl⟩ := hcs
      exact Go.Av.rel_bytes (.inr ⟨_, rfl, hl, hm, by simpa using hz, hcell, hwz⟩)
  clear hA0 hval0
  refine (Go.Av.law_of (oI 2000000 (l0) none (l1) none true (Go.Xm.XmlBack_t (l0) (l1))) (Go.Av.RelL.cons w0 (Go.Av.RelL.cons w1 Go.Av.RelL.nil)) (globsXmlBack hsh hL)).mono fun e W' ⟨he, bel⟩ => ?_
  subst he
  exact ⟨_, rfl, _, _, _, [], _, [], hW', trodAll_mk1 (shut_bool Tryz.underlying4 _), (trodAll_cons_mk (Below.trod laidOutXmlBack (by kernel_rfl) (of_decide_eq_true (by kernel_rfl)) k0 bel lt0) (trodAll_cons_mk (Below.trod laidOutXmlBack (by kernel_rfl) (of_decide_eq_true (by kernel_rfl)) k1 bel lt1) trodAll_mk0)), rfl, bel.frame _, fun h => by cases h⟩
set_option maxRecDepth 100000
theorem jfXmlBack0 : (Rows.xmlBackRow.wf (OpenSpec.ofChange Rows.xmlBackSpec)) = true := by kernel_rfl
theorem jfXmlBack1 : (laidOutB Tryz.prog) = true := by kernel_rfl
theorem jfXmlBack2 : (mapsRowed Tryz.prog) = true := by kernel_rfl
theorem jfXmlBack3 : (Tryz.f8.params.all (Tryz.prog.readableRec ·)) = true := by kernel_rfl
theorem jfXmlBack4 : (namedTie Tryz.prog Rows.xmlBackRow.named Rows.xmlBackSpec.vars) = true := by kernel_rfl
theorem jfXmlBack5 : ((Rows.xmlBackRow.stops == [])) = true := by kernel_rfl
theorem jfXmlBack6 : ((Tryz.prog.stops == [])) = true := by kernel_rfl
theorem jfXmlBack7 : ((Rows.xmlBackRow.knobs == [])) = true := by kernel_rfl
theorem jfXmlBack8 : ((Tryz.prog.stopKnobs == [])) = true := by kernel_rfl
theorem jfXmlBack9 : ((Rows.xmlBackRow.inPlace == Tryz.prog.inPlace 8)) = true := by kernel_rfl
theorem jfXmlBack10 : ((Rows.xmlBackRow.unfollowed == Tryz.prog.unfollowed 8)) = true := by kernel_rfl
theorem jfXmlBack11 : ((Rows.xmlBackRow.recurses == Tryz.prog.recurses 8)) = true := by kernel_rfl
theorem jfXmlBack12 : ((Rows.xmlBackRow.named == Tryz.prog.varsNamed 8)) = true := by kernel_rfl
theorem jfXmlBack13 : ((Rows.xmlBackRow.maps == (Tryz.f8.params.toList ++ Rows.xmlBackSpec.plain.varTypes Tryz.prog).any (Tryz.prog.mapsRec ·))) = true := by kernel_rfl
theorem jfXmlBack14 : ((Rows.xmlBackRow.ifaces == (Tryz.f8.params.toList ++ Rows.xmlBackSpec.plain.varTypes Tryz.prog).any (Tryz.prog.ifacesRec ·))) = true := by kernel_rfl
theorem jfXmlBack15 : ((Rows.xmlBackRow.mapsOut == Tryz.prog.mapsAmong Tryz.f8.resultTypes.toList)) = true := by kernel_rfl
theorem jfXmlBack16 : ((Rows.xmlBackRow.loops == (Tryz.f8.params.toList ++ Rows.xmlBackSpec.plain.varTypes Tryz.prog).any (Tryz.prog.loopsFrom ·))) = true := by kernel_rfl
theorem jfXmlBack17 : ((Rows.xmlBackRow.wideKeys == (Tryz.f8.params.toList ++ Rows.xmlBackSpec.plain.varTypes Tryz.prog ++ Tryz.f8.resultTypes.toList).any (Tryz.prog.wideKeysFrom ·))) = true := by kernel_rfl
theorem jfXmlBack18 : (Rows.xmlBackSpec.vars.all (Tryz.prog.varReadable ·)) = true := by kernel_rfl
theorem jfXmlBack19 : (Tryz.f8.resultTypes.all (fun t => Tryz.prog.readableRec t && decide (t < Tryz.prog.types.size))) = true := by kernel_rfl
theorem jfXmlBack20 : ((Rows.xmlBackRow.ifacesOut == Tryz.f8.resultTypes.toList.any (Tryz.prog.ifacesRec ·))) = true := by kernel_rfl
theorem jfXmlBack21 : ((Rows.xmlBackRow.loopsOut == Tryz.f8.resultTypes.toList.any (Tryz.prog.loopsFrom ·))) = true := by kernel_rfl
theorem jfXmlBack22 : ((Rows.xmlBackRow.plainKeys == Tryz.prog.plainKeys)) = true := by kernel_rfl
theorem jfXmlBack23 : (Rows.xmlBackRow.shortTexts.isNone) = true := by kernel_rfl
theorem jfXmlBack24 : (Tryz.prog.stopsHeard) = true := by kernel_rfl
theorem jfXmlBack25 : (Tryz.prog.mayEnter) = true := by kernel_rfl
theorem jfXmlBack26 : ((Rows.xmlBackRow.lifted == Tryz.prog.liftsFinal)) = true := by kernel_rfl
theorem jfXmlBack27 : ((Tryz.prog.make == some Rows.xmlBackRow.make)) = true := by kernel_rfl
theorem jfXmlBack28 : ((Rows.xmlBackRow.kinds == (if Rows.xmlBackRow.domain.isEmpty then [] else Tryz.f8.params.toList.map fun t => match Tryz.prog.underlying t with | some (.int k) => some k | _ => none))) = true := by kernel_rfl
theorem jfXmlBack29 : ((Rows.xmlBackRow.pinned == Rows.xmlBackRow.pinnedBy)) = true := by kernel_rfl
theorem jfXmlBack30 : ((Rows.xmlBackRow.veiled == (Tryz.f8.params.toList ++ Rows.xmlBackSpec.plain.varTypes Tryz.prog ++ Tryz.f8.resultTypes.toList).any (Tryz.prog.veiledRec ·))) = true := by kernel_rfl
theorem jfXmlBack31 : (Rows.xmlBackRow.veiledFits Tryz.prog Tryz.f8.params.toList (Tryz.f8.params.toList ++ Rows.xmlBackSpec.plain.varTypes Tryz.prog ++ Tryz.f8.resultTypes.toList)) = true := by kernel_rfl
theorem jfXmlBack : joinedFacts Tryz.prog 8 Tryz.f8 Rows.xmlBackSpec Rows.xmlBackRow = true := by
  unfold joinedFacts
  simp only [Bool.and_eq_true]
  exact ⟨⟨⟨⟨⟨⟨⟨⟨⟨⟨⟨⟨⟨⟨⟨⟨⟨⟨⟨⟨⟨⟨⟨⟨⟨⟨⟨⟨⟨⟨⟨jfXmlBack0, jfXmlBack1⟩, jfXmlBack2⟩, jfXmlBack3⟩, jfXmlBack4⟩, jfXmlBack5⟩, jfXmlBack6⟩, jfXmlBack7⟩, jfXmlBack8⟩, jfXmlBack9⟩, jfXmlBack10⟩, jfXmlBack11⟩, jfXmlBack12⟩, jfXmlBack13⟩, jfXmlBack14⟩, jfXmlBack15⟩, jfXmlBack16⟩, jfXmlBack17⟩, jfXmlBack18⟩, jfXmlBack19⟩, jfXmlBack20⟩, jfXmlBack21⟩, jfXmlBack22⟩, jfXmlBack23⟩, jfXmlBack24⟩, jfXmlBack25⟩, jfXmlBack26⟩, jfXmlBack27⟩, jfXmlBack28⟩, jfXmlBack29⟩, jfXmlBack30⟩, jfXmlBack31⟩
theorem overXmlBack : Rows.xmlBackRow.holds Tryz.pinned (OpenSpec.ofChange Rows.xmlBackSpec) :=
  OpenClaim.holds_of_wide 8 Tryz.f8 rfl rfl rfl rfl rfl rfl rfl ⟨rfl, rfl, rfl, rfl, rfl⟩ rfl rfl rfl rfl rfl (by kernel_rfl) Tryz.func8 jfXmlBack
    (of_decide_eq_true (by kernel_rfl)) (by unfold Func.isWrapper; first | (rw [if_pos (by decide +kernel)]; kernel_rfl) | (rw [if_neg (by decide +kernel)]; exact ⟨rfl, rfl⟩))
    (fun os started H enc _ => liftedXmlBack os started H enc)
/-- The given statement: the card. -/
theorem XmlBack_holds : Rows.XmlBackCardSaid :=
  Claim7.holds_tied_plain_at .later [] [.data, .data, .data, .data, .sentinel, .sentinel, .pinned] true (true, "497d33d9d3c1b7ccad689684dba5f50efa6f58f2b680c6ec720330d92b7b9911") true overXmlBack (fun _ h => by cases h) (by kernel_rfl) (fun _ h => by cases h) xmlBack_row_tie rfl ⟨rfl, rfl⟩ (by kernel_rfl) rfl
    (fun f fn hf hfn => by
      obtain rfl : f = 8 := Option.some.inj ((show Tryz.prog.funcNamed Rows.xmlBackRow.func = some 8 by kernel_rfl).symm.trans hf) |>.symm
      obtain rfl : fn = Tryz.f8 := (Option.some.inj (Tryz.func8.symm.trans hfn)).symm
      exact ⟨by kernel_rfl, fun j t ht => by
        rw [Tryz.params8] at ht
        have hm : t ∈ [24, 22] := by have := Array.mem_of_getElem? ht; simpa using this
        have hall : ([24, 22].all fun u => !Tryz.prog.wantsStandIn u) = true := by kernel_rfl
        exact (show Tryz.prog.wantsStandIn t = false by simpa using List.all_eq_true.1 hall t hm)⟩)
    (by kernel_rfl)
end Go.Proofs.YteokdkimegepoaaGreatDoor
