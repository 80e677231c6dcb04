/-
  XmlAround: the row, out of the walk and the plain law; and its card.
-/
import Derived.Test.YteokdkimegepoaaGreatDoorRows
import Derived.Test.YteokdkimegepoaaGreatDoorCards
import Derived.Test.YteokdkimegepoaaGreatDoorTie
import Derived.Test.YteokdkimegepoaaGreatDoorZXmlAround5
import Derived.WalkKit
import Derived.ProofKit
import Derived.OpenShut
import Derived.ShutString
import Derived.ChangeOld
import Derived.Below
import Derived.LaidMore
import Derived.Lay
import Derived.SevenTiedAt
import Derived.Stop.Joined
namespace Go.Proofs.YteokdkimegepoaaGreatDoor
open Go.ChangeShapes Go.WideShapes Go.ChangeAt Go.RowKit
open Go.ChangeMaps (open_string shut_string)
set_option linter.unusedVariables false
theorem ownXmlAround : ownKnob Tryz.prog.godebug = none := by kernel_rfl
theorem laidOutXmlAround : laidOutB Tryz.prog = true := by kernel_rfl
theorem plainLaidXmlAround : (Rows.xmlAroundRow.laid.all fun x => x.2.handleName?.isNone) = true := by kernel_rfl
/-- What the variables that the walk reads hold when the call begins. -/
theorem globsXmlAround {W : World} (hsh : W.ShapedOpen Tryz.prog) (hL : laidMetH Tryz.prog Rows.xmlAroundRow.laid W) : ∀ g cs, Go.Av.G g = some cs → Go.Av.Rel (Go.Av.Info.start W) W (Go.Av.gv cs) (.pointer (some ⟨g, 0, none⟩)) := by
  rw [MakeChecks.laidMetH_plain _ _ _ plainLaidXmlAround] at hL
  have x0 : ∃ m, W.cell? ⟨0, 0, none⟩ = some (.int .i64 m) := cell_of_shapedOpen_int (P := Tryz.prog) (g := 0) (t := 3) (zero := #[.int .i64 0]) hsh (of_decide_eq_true (by kernel_rfl)) (by kernel_rfl) rfl (by kernel_rfl) (by kernel_rfl) Tryz.underlying3
  have x3 : ∃ v, W.cell? ⟨3, 0, none⟩ = some v ∧ (v = .nilIface ∨ ∃ u y, v = .iface u y) := Go.Av.laid_iface (n := "strconv.ErrSyntax") (d := Rows.laid_strconv_ErrSyntax) hL (by simp [Rows.xmlAroundRow]) (by kernel_rfl) (by kernel_rfl) Tryz.underlying62
  have x4 : ∃ v, W.cell? ⟨4, 0, none⟩ = some v ∧ (v = .nilIface ∨ ∃ u y, v = .iface u y) := Go.Av.laid_iface (n := "strconv.ErrRange") (d := Rows.laid_strconv_ErrRange) hL (by simp [Rows.xmlAroundRow]) (by kernel_rfl) (by kernel_rfl) Tryz.underlying62
  intro g cs hG
  rcases g with _ | _ | _ | _ | _ | g
  · obtain rfl := Option.some.inj hG
    obtain ⟨m, hm⟩ := x0
    exact Go.Av.rel_var hm (.anyk _ _)
  · simp [Go.Av.G] at hG
  · simp [Go.Av.G] at hG
  · obtain rfl := Option.some.inj hG
    obtain ⟨v, hv, hk⟩ := x3
    exact Go.Av.rel_var hv (Go.Av.rel_anyi hk)
  · obtain rfl := Option.some.inj hG
    obtain ⟨v, hv, hk⟩ := x4
    exact Go.Av.rel_var hv (Go.Av.rel_anyi hk)
  · simp [Go.Av.G] at hG
set_option maxRecDepth 100000 in
theorem liftedXmlAround (os : Os) (started : os.Started) (H : Type) (enc : TypeId × Value → H) :
    ReturnsInHanded {} Tryz.checked os 6 .any (fun w args => (Rows.xmlAroundSpec.pre enc Tryz.prog Tryz.f6 Rows.xmlAroundRow.domain false w args ∧ laidMetH Tryz.prog Rows.xmlAroundRow.laid w) ∧ sizedMet enc Tryz.prog Tryz.f6 (OpenSpec.ofChange Rows.xmlAroundSpec) false w args)
      (Rows.xmlAroundSpec.post enc Tryz.prog Tryz.f6 false true false false) := by
  refine Go.Av.returns_and_shaped (C := Tryz.checked) (X := fun w _ => laidMetH Tryz.prog Rows.xmlAroundRow.laid w) (fun _ _ _ hh h => h.of_heap hh) ownXmlAround started (by kernel_rfl) Tryz.func6
    (ChangeSpec.witness_shaped (enc := enc) (C := Tryz.checked) (os := os) (X := fun w _ => laidMetH Tryz.prog Rows.xmlAroundRow.laid w) false (World.laidAll Tryz.prog os Rows.xmlAroundRow.laid) #[.slice none 0 0, .int .i64 0, .int .i64 0] 8 (World.laidAll_os _ _ _)
      (World.shaped_of_ZipB (by kernel_rfl) (by kernel_rfl)) (by kernel_rfl) (by kernel_rfl) (by kernel_rfl)
      (by rw [MakeChecks.laidMetH_plain _ _ _ plainLaidXmlAround]; exact laidMet_laidAll _ (by kernel_rfl) (by kernel_rfl))) ?_
  intro W base args ds gs before hval0 hW hsh hL
  have hval : ∀ (j : Nat) t v, Tryz.f6.params[j]? = some t → args[j]? = some v → Value.okWide Tryz.prog W .any base t v := hval0
  have hW' := hW
  obtain ⟨p, q, hA0, hV, rfl, hfz, hnd⟩ := hW
  have hA : DataW.TrodAll enc Tryz.prog W 0 (fun _ => true) true Tryz.f6.params.toList args.toList ds p := hA0
  rw [Tryz.params6] at hA hval
  obtain ⟨v0, vs0, d0, ds0, p0, q0, hargs, rfl, rfl, h0, r0⟩ := trodAll_cons hA
  obtain ⟨v1, vs1, d1, ds1, p1, q1, rfl, rfl, rfl, h1, r1⟩ := trodAll_cons r0
  obtain ⟨v2, vs2, d2, ds2, p2, q2, rfl, rfl, rfl, h2, r2⟩ := trodAll_cons r1
  obtain ⟨rfl, rfl, rfl⟩ := trodAll_nil r2
  obtain rfl : args = #[v0, v1, v2] := by cases args; simp_all
  obtain ⟨rfl, rfl⟩ := trodVars_none hV
  have k0 := h0
  have lt0 : ∀ x ∈ p0, x.block < W.heap.size := by obtain ⟨m, hm⟩ := k0; exact DataW.trod_lt m _ _ _ hm
  have k1 := h1
  have lt1 : ∀ x ∈ p1, x.block < W.heap.size := by obtain ⟨m, hm⟩ := k1; exact DataW.trod_lt m _ _ _ hm
  have k2 := h2
  have lt2 : ∀ x ∈ p2, x.block < W.heap.size := by obtain ⟨m, hm⟩ := k2; exact DataW.trod_lt m _ _ _ hm
  obtain ⟨a0, len0, cap0, rfl⟩ := okWide_slice Tryz.underlying22 (hval 0 22 v0 rfl rfl)
  obtain ⟨l0, hl0, hm0, w0⟩ : ∃ l : List UInt8, l.length = len0 ∧ len0 ≤ maxLen ∧ Go.Av.Rel (Go.Av.Info.start W) W (Go.Av.slE Go.Av.Enc.byte l none) (.slice a0 len0 cap0) := by
    obtain ⟨fuel, hf⟩ := h0
    rcases open_ints Tryz.underlying22 Tryz.underlying5 (by kernel_rfl) hf with ⟨hcs, _⟩ | ⟨x, l, c, zs, hcs, _, hl, hm, hz, _, hcell, hwz⟩
    · simp [Value.cells] at hcs
      obtain ⟨rfl, rfl, rfl⟩ := hcs
      exact Go.Av.rel_bytes (.inl ⟨rfl, rfl, rfl, rfl⟩)
    · simp [Value.cells] at hcs
      obtain ⟨rfl, rfl, rfl⟩ := hcs
      exact Go.Av.rel_bytes (.inr ⟨_, rfl, hl, hm, by simpa using hz, hcell, hwz⟩)
  obtain ⟨a1, rfl, rfl, rfl, w1⟩ := open_int Tryz.underlying3 (hval 1 3 v1 rfl rfl) h1
  obtain ⟨a2, rfl, rfl, rfl, w2⟩ := open_int Tryz.underlying3 (hval 2 3 v2 rfl rfl) h2
  clear hA0 hval0
  refine (Go.Av.law_of (lf 2000000 (l0) none (a1) (a2) true (Go.Xm.XmlAround_t (l0) (a1) (a2))) (Go.Av.RelL.cons w0 (Go.Av.RelL.cons (.v _) (Go.Av.RelL.cons (.v _) Go.Av.RelL.nil))) (globsXmlAround hsh hL)).mono fun e W' ⟨he, bel⟩ => ?_
  subst he
  exact ⟨_, rfl, _, _, _, [], _, [], hW', trodAll_mk1 (shut_bool Tryz.underlying4 _), (trodAll_cons_mk (Below.trod laidOutXmlAround (by kernel_rfl) (of_decide_eq_true (by kernel_rfl)) k0 bel lt0) (trodAll_cons_mk (Below.trod laidOutXmlAround (by kernel_rfl) (of_decide_eq_true (by kernel_rfl)) k1 bel lt1) (trodAll_cons_mk (Below.trod laidOutXmlAround (by kernel_rfl) (of_decide_eq_true (by kernel_rfl)) k2 bel lt2) trodAll_mk0))), rfl, bel.frame _, fun h => by cases h⟩
set_option maxRecDepth 100000
theorem jfXmlAround0 : (Rows.xmlAroundRow.wf (OpenSpec.ofChange Rows.xmlAroundSpec)) = true := by kernel_rfl
theorem jfXmlAround1 : (laidOutB Tryz.prog) = true := by kernel_rfl
theorem jfXmlAround2 : (mapsRowed Tryz.prog) = true := by kernel_rfl
theorem jfXmlAround3 : (Tryz.f6.params.all (Tryz.prog.readableRec ·)) = true := by kernel_rfl
theorem jfXmlAround4 : (namedTie Tryz.prog Rows.xmlAroundRow.named Rows.xmlAroundSpec.vars) = true := by kernel_rfl
theorem jfXmlAround5 : ((Rows.xmlAroundRow.stops == [])) = true := by kernel_rfl
theorem jfXmlAround6 : ((Tryz.prog.stops == [])) = true := by kernel_rfl
theorem jfXmlAround7 : ((Rows.xmlAroundRow.knobs == [])) = true := by kernel_rfl
theorem jfXmlAround8 : ((Tryz.prog.stopKnobs == [])) = true := by kernel_rfl
theorem jfXmlAround9 : ((Rows.xmlAroundRow.inPlace == Tryz.prog.inPlace 6)) = true := by kernel_rfl
theorem jfXmlAround10 : ((Rows.xmlAroundRow.unfollowed == Tryz.prog.unfollowed 6)) = true := by kernel_rfl
theorem jfXmlAround11 : ((Rows.xmlAroundRow.recurses == Tryz.prog.recurses 6)) = true := by kernel_rfl
theorem jfXmlAround12 : ((Rows.xmlAroundRow.named == Tryz.prog.varsNamed 6)) = true := by kernel_rfl
theorem jfXmlAround13 : ((Rows.xmlAroundRow.maps == (Tryz.f6.params.toList ++ Rows.xmlAroundSpec.plain.varTypes Tryz.prog).any (Tryz.prog.mapsRec ·))) = true := by kernel_rfl
theorem jfXmlAround14 : ((Rows.xmlAroundRow.ifaces == (Tryz.f6.params.toList ++ Rows.xmlAroundSpec.plain.varTypes Tryz.prog).any (Tryz.prog.ifacesRec ·))) = true := by kernel_rfl
theorem jfXmlAround15 : ((Rows.xmlAroundRow.mapsOut == Tryz.prog.mapsAmong Tryz.f6.resultTypes.toList)) = true := by kernel_rfl
theorem jfXmlAround16 : ((Rows.xmlAroundRow.loops == (Tryz.f6.params.toList ++ Rows.xmlAroundSpec.plain.varTypes Tryz.prog).any (Tryz.prog.loopsFrom ·))) = true := by kernel_rfl
theorem jfXmlAround17 : ((Rows.xmlAroundRow.wideKeys == (Tryz.f6.params.toList ++ Rows.xmlAroundSpec.plain.varTypes Tryz.prog ++ Tryz.f6.resultTypes.toList).any (Tryz.prog.wideKeysFrom ·))) = true := by kernel_rfl
theorem jfXmlAround18 : (Rows.xmlAroundSpec.vars.all (Tryz.prog.varReadable ·)) = true := by kernel_rfl
theorem jfXmlAround19 : (Tryz.f6.resultTypes.all (fun t => Tryz.prog.readableRec t && decide (t < Tryz.prog.types.size))) = true := by kernel_rfl
theorem jfXmlAround20 : ((Rows.xmlAroundRow.ifacesOut == Tryz.f6.resultTypes.toList.any (Tryz.prog.ifacesRec ·))) = true := by kernel_rfl
theorem jfXmlAround21 : ((Rows.xmlAroundRow.loopsOut == Tryz.f6.resultTypes.toList.any (Tryz.prog.loopsFrom ·))) = true := by kernel_rfl
theorem jfXmlAround22 : ((Rows.xmlAroundRow.plainKeys == Tryz.prog.plainKeys)) = true := by kernel_rfl
theorem jfXmlAround23 : (Rows.xmlAroundRow.shortTexts.isNone) = true := by kernel_rfl
theorem jfXmlAround24 : (Tryz.prog.stopsHeard) = true := by kernel_rfl
theorem jfXmlAround25 : (Tryz.prog.mayEnter) = true := by kernel_rfl
theorem jfXmlAround26 : ((Rows.xmlAroundRow.lifted == Tryz.prog.liftsFinal)) = true := by kernel_rfl
theorem jfXmlAround27 : ((Tryz.prog.make == some Rows.xmlAroundRow.make)) = true := by kernel_rfl
theorem jfXmlAround28 : ((Rows.xmlAroundRow.kinds == (if Rows.xmlAroundRow.domain.isEmpty then [] else Tryz.f6.params.toList.map fun t => match Tryz.prog.underlying t with | some (.int k) => some k | _ => none))) = true := by kernel_rfl
theorem jfXmlAround29 : ((Rows.xmlAroundRow.pinned == Rows.xmlAroundRow.pinnedBy)) = true := by kernel_rfl
theorem jfXmlAround30 : ((Rows.xmlAroundRow.veiled == (Tryz.f6.params.toList ++ Rows.xmlAroundSpec.plain.varTypes Tryz.prog ++ Tryz.f6.resultTypes.toList).any (Tryz.prog.veiledRec ·))) = true := by kernel_rfl
theorem jfXmlAround31 : (Rows.xmlAroundRow.veiledFits Tryz.prog Tryz.f6.params.toList (Tryz.f6.params.toList ++ Rows.xmlAroundSpec.plain.varTypes Tryz.prog ++ Tryz.f6.resultTypes.toList)) = true := by kernel_rfl
theorem jfXmlAround : joinedFacts Tryz.prog 6 Tryz.f6 Rows.xmlAroundSpec Rows.xmlAroundRow = true := by
  unfold joinedFacts
  simp only [Bool.and_eq_true]
  exact ⟨⟨⟨⟨⟨⟨⟨⟨⟨⟨⟨⟨⟨⟨⟨⟨⟨⟨⟨⟨⟨⟨⟨⟨⟨⟨⟨⟨⟨⟨⟨jfXmlAround0, jfXmlAround1⟩, jfXmlAround2⟩, jfXmlAround3⟩, jfXmlAround4⟩, jfXmlAround5⟩, jfXmlAround6⟩, jfXmlAround7⟩, jfXmlAround8⟩, jfXmlAround9⟩, jfXmlAround10⟩, jfXmlAround11⟩, jfXmlAround12⟩, jfXmlAround13⟩, jfXmlAround14⟩, jfXmlAround15⟩, jfXmlAround16⟩, jfXmlAround17⟩, jfXmlAround18⟩, jfXmlAround19⟩, jfXmlAround20⟩, jfXmlAround21⟩, jfXmlAround22⟩, jfXmlAround23⟩, jfXmlAround24⟩, jfXmlAround25⟩, jfXmlAround26⟩, jfXmlAround27⟩, jfXmlAround28⟩, jfXmlAround29⟩, jfXmlAround30⟩, jfXmlAround31⟩
theorem overXmlAround : Rows.xmlAroundRow.holds Tryz.pinned (OpenSpec.ofChange Rows.xmlAroundSpec) :=
  OpenClaim.holds_of_wide 6 Tryz.f6 rfl rfl rfl rfl rfl rfl rfl ⟨rfl, rfl, rfl, rfl, rfl⟩ rfl rfl rfl rfl rfl (by kernel_rfl) Tryz.func6 jfXmlAround
    (of_decide_eq_true (by kernel_rfl)) (by unfold Func.isWrapper; first | (rw [if_pos (by decide +kernel)]; kernel_rfl) | (rw [if_neg (by decide +kernel)]; exact ⟨rfl, rfl⟩))
    (fun os started H enc _ => liftedXmlAround os started H enc)
/-- The given statement: the card. -/
theorem XmlAround_holds : Rows.XmlAroundCardSaid :=
  Claim7.holds_tied_plain_at .later [] [.data, .data, .data, .data, .sentinel, .sentinel, .pinned] true (true, "497d33d9d3c1b7ccad689684dba5f50efa6f58f2b680c6ec720330d92b7b9911") true overXmlAround (fun _ h => by cases h) (by kernel_rfl) (fun _ h => by cases h) xmlAround_row_tie rfl ⟨rfl, rfl⟩ (by kernel_rfl) rfl
    (fun f fn hf hfn => by
      obtain rfl : f = 6 := Option.some.inj ((show Tryz.prog.funcNamed Rows.xmlAroundRow.func = some 6 by kernel_rfl).symm.trans hf) |>.symm
      obtain rfl : fn = Tryz.f6 := (Option.some.inj (Tryz.func6.symm.trans hfn)).symm
      exact ⟨by kernel_rfl, fun j t ht => by
        rw [Tryz.params6] at ht
        have hm : t ∈ [22, 3] := by have := Array.mem_of_getElem? ht; simpa using this
        have hall : ([22, 3].all fun u => !Tryz.prog.wantsStandIn u) = true := by kernel_rfl
        exact (show Tryz.prog.wantsStandIn t = false by simpa using List.all_eq_true.1 hall t hm)⟩)
    (by kernel_rfl)
end Go.Proofs.YteokdkimegepoaaGreatDoor
