/-
  DigestMarks: the row, out of the walk and the plain law; and its card.
-/
import Derived.Test.YtjegcifofddgbaaGreatDoorRows
import Derived.Test.YtjegcifofddgbaaGreatDoorCards
import Derived.Test.YtjegcifofddgbaaGreatDoorTie
import Derived.Test.YtjegcifofddgbaaGreatDoorZDigestMarks5
import Derived.Lib.LaidTab
import Derived.Stop.LaidErr
import Derived.WalkKit
import Derived.ProofKit
import Derived.OpenShut
import Derived.ShutString
import Derived.ChangeOld
import Derived.Below
import Derived.LaidMore
import Derived.Lay
import Derived.SevenTiedAt
import Derived.Stop.Joined
namespace Go.Proofs.YtjegcifofddgbaaGreatDoor
open Go.ChangeShapes Go.WideShapes Go.ChangeAt Go.RowKit
open Go.ChangeMaps (open_string shut_string)
set_option linter.unusedVariables false
theorem ownDigestMarks : ownKnob Tryz.prog.godebug = none := by kernel_rfl
theorem laidOutDigestMarks : laidOutB Tryz.prog = true := by kernel_rfl
theorem plainLaidDigestMarks : (Rows.digestMarksRow.laid.all fun x => x.2.handleName?.isNone) = true := by kernel_rfl
/-- What the variables that the walk reads hold when the call begins. -/
theorem globsDigestMarks {W : World} (hsh : W.ShapedOpen Tryz.prog) (hL : laidMetH Tryz.prog Rows.digestMarksRow.laid W) : ∀ g cs, Go.Av.G g = some cs → Go.Av.Rel (Go.Av.Info.start W) W (Go.Av.gv cs) (.pointer (some ⟨g, 0, none⟩)) := by
  rw [MakeChecks.laidMetH_plain _ _ _ plainLaidDigestMarks] at hL
  have x0 : ∃ m, W.cell? ⟨0, 0, none⟩ = some (.int .i64 m) := cell_of_shapedOpen_int (P := Tryz.prog) (g := 0) (t := 3) (zero := #[.int .i64 0]) hsh (of_decide_eq_true (by kernel_rfl)) (by kernel_rfl) rfl (by kernel_rfl) (by kernel_rfl) Tryz.underlying3
  have x1 : ∃ v, W.cell? ⟨1, 0, none⟩ = some v ∧ (v = .nilIface ∨ ∃ u y, v = .iface u y) := Go.Av.laid_iface (n := "strconv.ErrSyntax") (d := Rows.laid_strconv_ErrSyntax) hL (by simp [Rows.digestMarksRow]) (by kernel_rfl) (by kernel_rfl) Tryz.underlying72
  have x2 : ∃ v, W.cell? ⟨2, 0, none⟩ = some v ∧ (v = .nilIface ∨ ∃ u y, v = .iface u y) := Go.Av.laid_iface (n := "strconv.ErrRange") (d := Rows.laid_strconv_ErrRange) hL (by simp [Rows.digestMarksRow]) (by kernel_rfl) (by kernel_rfl) Tryz.underlying72
  have e3 : (Rows.laid_internal_strconv_uint64pow10 : DataW Unit) = Go.Lib.tabData .u64 Go.Lib.pow10Tab := by kernel_rfl
  have y3 := (laidMet.tail (laidMet.tail hL))
  have z3 : ∃ r, laidMet Tryz.prog (("internal/strconv.uint64pow10", Go.Lib.tabData .u64 Go.Lib.pow10Tab) :: r) W := by
    rw [← e3]
    exact ⟨_, y3⟩
  have x3 : Go.Lib.TabIs Tryz.prog W "internal/strconv.uint64pow10" .u64 Go.Lib.pow10Tab := by
    obtain ⟨r, h⟩ := z3
    exact Go.Lib.tabIs_of_head (g := 3) (t := 252) (e := 207) (n := 20) (by kernel_rfl) (by kernel_rfl) Tryz.underlying252 Tryz.underlying207 (by kernel_rfl) (by kernel_rfl) h
  intro g cs hG
  rcases g with _ | _ | _ | _ | g
  · obtain rfl := Option.some.inj hG
    obtain ⟨m, hm⟩ := x0
    exact Go.Av.rel_var hm (.anyk _ _)
  · obtain rfl := Option.some.inj hG
    obtain ⟨v, hv, hk⟩ := x1
    exact Go.Av.rel_var hv (Go.Av.rel_anyi hk)
  · obtain rfl := Option.some.inj hG
    obtain ⟨v, hv, hk⟩ := x2
    exact Go.Av.rel_var hv (Go.Av.rel_anyi hk)
  · obtain rfl := Option.some.inj hG
    have h := Go.Av.rel_tab (g := 3) (by kernel_rfl) x3
    simpa [Go.Lib.pow10Tab, Function.comp_def] using h
  · simp [Go.Av.G] at hG
set_option maxRecDepth 100000 in
theorem liftedDigestMarks (os : Os) (started : os.Started) (H : Type) (enc : TypeId × Value → H) :
    ReturnsInHanded {} Tryz.checked os 3 .any (fun w args => (Rows.digestMarksSpec.pre enc Tryz.prog Tryz.f3 Rows.digestMarksRow.domain false w args ∧ laidMetH Tryz.prog Rows.digestMarksRow.laid w) ∧ sizedMet enc Tryz.prog Tryz.f3 (OpenSpec.ofChange Rows.digestMarksSpec) false w args)
      (Rows.digestMarksSpec.post enc Tryz.prog Tryz.f3 false true false false) := by
  refine Go.Av.returns_and_shaped (C := Tryz.checked) (X := fun w _ => laidMetH Tryz.prog Rows.digestMarksRow.laid w) (fun _ _ _ hh h => h.of_heap hh) ownDigestMarks started (by kernel_rfl) Tryz.func3
    (ChangeSpec.witness_shaped (enc := enc) (C := Tryz.checked) (os := os) (X := fun w _ => laidMetH Tryz.prog Rows.digestMarksRow.laid w) false (World.laidAll Tryz.prog os Rows.digestMarksRow.laid) #[.slice none 0 0] 8 (World.laidAll_os _ _ _)
      (World.shaped_of_ZipB (by kernel_rfl) (by kernel_rfl)) (by kernel_rfl) (by kernel_rfl) (by kernel_rfl)
      (by rw [MakeChecks.laidMetH_plain _ _ _ plainLaidDigestMarks]; exact laidMet_laidAll _ (by kernel_rfl) (by kernel_rfl))) ?_
  intro W base args ds gs before hval0 hW hsh hL
  have hval : ∀ (j : Nat) t v, Tryz.f3.params[j]? = some t → args[j]? = some v → Value.okWide Tryz.prog W .any base t v := hval0
  have hW' := hW
  obtain ⟨p, q, hA0, hV, rfl, hfz, hnd⟩ := hW
  have hA : DataW.TrodAll enc Tryz.prog W 0 (fun _ => true) true Tryz.f3.params.toList args.toList ds p := hA0
  rw [Tryz.params3] at hA hval
  obtain ⟨v0, vs0, d0, ds0, p0, q0, hargs, rfl, rfl, h0, r0⟩ := trodAll_cons hA
  obtain ⟨rfl, rfl, rfl⟩ := trodAll_nil r0
  obtain rfl : args = #[v0] := by cases args; simp_all
  obtain ⟨rfl, rfl⟩ := trodVars_none hV
  have k0 := h0
  have lt0 : ∀ x ∈ p0, x.block < W.heap.size := by obtain ⟨m, hm⟩ := k0; exact DataW.trod_lt m _ _ _ hm
  obtain ⟨a0, len0, cap0, rfl⟩ := okWide_slice Tryz.underlying22 (hval 0 22 v0 rfl rfl)
  obtain ⟨l0, _, w0⟩ := Go.Av.one_of (P := Tryz.prog) (w := W) rfl h0 (Go.Av.opens_slice (Go.Av.Enc.prod (Go.Av.Enc.int) (Go.Av.Enc.prod (Go.Av.Enc.int) (Go.Av.Enc.prod (Go.Av.Enc.str) (Go.Av.Enc.prod (Go.Av.Enc.str) (Go.Av.Enc.prod (Go.Av.Enc.str) (Go.Av.Enc.prod (Go.Av.Enc.str) (Go.Av.Enc.int))))))) (fun (x : (Int × Int × (List UInt8 × List UInt8 × List UInt8 × List UInt8 × Int × Unit) × Unit)) => (x.1, x.2.1, (x.2.2.1.1, x.2.2.1.2.1, x.2.2.1.2.2.1, x.2.2.1.2.2.2.1, x.2.2.1.2.2.2.2.1))) Tryz.underlying22 (by kernel_rfl) (Go.Av.opens_struct (tot := 7) Tryz.underlying29 (by kernel_rfl) (Go.Av.opensF_cons (k := 1) rfl (by kernel_rfl) (Go.Av.opens_int Tryz.underlying3) (Go.Av.opensF_cons (k := 1) rfl (by kernel_rfl) (Go.Av.opens_int Tryz.underlying3) (Go.Av.opensF_cons (k := 5) rfl (by kernel_rfl) (Go.Av.opens_struct (tot := 5) Tryz.underlying27 (by kernel_rfl) (Go.Av.opensF_cons (k := 1) rfl (by kernel_rfl) (Go.Av.opens_str Tryz.underlying9) (Go.Av.opensF_cons (k := 1) rfl (by kernel_rfl) (Go.Av.opens_str Tryz.underlying9) (Go.Av.opensF_cons (k := 1) rfl (by kernel_rfl) (Go.Av.opens_str Tryz.underlying9) (Go.Av.opensF_cons (k := 1) rfl (by kernel_rfl) (Go.Av.opens_str Tryz.underlying9) (Go.Av.opensF_cons (k := 1) rfl (by kernel_rfl) (Go.Av.opens_int Tryz.underlying3) (Go.Av.opensF_nil (tot := 5)))))))) (Go.Av.opensF_nil (tot := 7)))))) (fun _ => rfl))
  clear hA0 hval0
  refine (Go.Av.law_of (lU 100000 (l0) none true (Go.Dg.DigestMarks_t (l0))) (Go.Av.RelL.cons w0 Go.Av.RelL.nil) (globsDigestMarks hsh hL)).mono fun e W' ⟨he, bel⟩ => ?_
  subst he
  exact ⟨_, rfl, _, _, _, [], _, [], hW', trodAll_mk1 (shut_bool Tryz.underlying4 _), (trodAll_cons_mk (Below.trod laidOutDigestMarks (by kernel_rfl) (of_decide_eq_true (by kernel_rfl)) k0 bel lt0) trodAll_mk0), rfl, bel.frame _, fun h => by cases h⟩
set_option maxRecDepth 100000
theorem jfDigestMarks0 : (Rows.digestMarksRow.wf (OpenSpec.ofChange Rows.digestMarksSpec)) = true := by kernel_rfl
theorem jfDigestMarks1 : (laidOutB Tryz.prog) = true := by kernel_rfl
theorem jfDigestMarks2 : (mapsRowed Tryz.prog) = true := by kernel_rfl
theorem jfDigestMarks3 : (Tryz.f3.params.all (Tryz.prog.readableRec ·)) = true := by kernel_rfl
theorem jfDigestMarks4 : (namedTie Tryz.prog Rows.digestMarksRow.named Rows.digestMarksSpec.vars) = true := by kernel_rfl
theorem jfDigestMarks5 : ((Rows.digestMarksRow.stops == [])) = true := by kernel_rfl
theorem jfDigestMarks6 : ((Tryz.prog.stops == [])) = true := by kernel_rfl
theorem jfDigestMarks7 : ((Rows.digestMarksRow.knobs == [])) = true := by kernel_rfl
theorem jfDigestMarks8 : ((Tryz.prog.stopKnobs == [])) = true := by kernel_rfl
theorem jfDigestMarks9 : ((Rows.digestMarksRow.inPlace == Tryz.prog.inPlace 3)) = true := by kernel_rfl
theorem jfDigestMarks10 : ((Rows.digestMarksRow.unfollowed == Tryz.prog.unfollowed 3)) = true := by kernel_rfl
theorem jfDigestMarks11 : ((Rows.digestMarksRow.recurses == Tryz.prog.recurses 3)) = true := by kernel_rfl
theorem jfDigestMarks12 : ((Rows.digestMarksRow.named == Tryz.prog.varsNamed 3)) = true := by kernel_rfl
theorem jfDigestMarks13 : ((Rows.digestMarksRow.maps == (Tryz.f3.params.toList ++ Rows.digestMarksSpec.plain.varTypes Tryz.prog).any (Tryz.prog.mapsRec ·))) = true := by kernel_rfl
theorem jfDigestMarks14 : ((Rows.digestMarksRow.ifaces == (Tryz.f3.params.toList ++ Rows.digestMarksSpec.plain.varTypes Tryz.prog).any (Tryz.prog.ifacesRec ·))) = true := by kernel_rfl
theorem jfDigestMarks15 : ((Rows.digestMarksRow.mapsOut == Tryz.prog.mapsAmong Tryz.f3.resultTypes.toList)) = true := by kernel_rfl
theorem jfDigestMarks16 : ((Rows.digestMarksRow.loops == (Tryz.f3.params.toList ++ Rows.digestMarksSpec.plain.varTypes Tryz.prog).any (Tryz.prog.loopsFrom ·))) = true := by kernel_rfl
theorem jfDigestMarks17 : ((Rows.digestMarksRow.wideKeys == (Tryz.f3.params.toList ++ Rows.digestMarksSpec.plain.varTypes Tryz.prog ++ Tryz.f3.resultTypes.toList).any (Tryz.prog.wideKeysFrom ·))) = true := by kernel_rfl
theorem jfDigestMarks18 : (Rows.digestMarksSpec.vars.all (Tryz.prog.varReadable ·)) = true := by kernel_rfl
theorem jfDigestMarks19 : (Tryz.f3.resultTypes.all (fun t => Tryz.prog.readableRec t && decide (t < Tryz.prog.types.size))) = true := by kernel_rfl
theorem jfDigestMarks20 : ((Rows.digestMarksRow.ifacesOut == Tryz.f3.resultTypes.toList.any (Tryz.prog.ifacesRec ·))) = true := by kernel_rfl
theorem jfDigestMarks21 : ((Rows.digestMarksRow.loopsOut == Tryz.f3.resultTypes.toList.any (Tryz.prog.loopsFrom ·))) = true := by kernel_rfl
theorem jfDigestMarks22 : ((Rows.digestMarksRow.plainKeys == Tryz.prog.plainKeys)) = true := by kernel_rfl
theorem jfDigestMarks23 : (Rows.digestMarksRow.shortTexts.isNone) = true := by kernel_rfl
theorem jfDigestMarks24 : (Tryz.prog.stopsHeard) = true := by kernel_rfl
theorem jfDigestMarks25 : (Tryz.prog.mayEnter) = true := by kernel_rfl
theorem jfDigestMarks26 : ((Rows.digestMarksRow.lifted == Tryz.prog.liftsFinal)) = true := by kernel_rfl
theorem jfDigestMarks27 : ((Tryz.prog.make == some Rows.digestMarksRow.make)) = true := by kernel_rfl
theorem jfDigestMarks28 : ((Rows.digestMarksRow.kinds == (if Rows.digestMarksRow.domain.isEmpty then [] else Tryz.f3.params.toList.map fun t => match Tryz.prog.underlying t with | some (.int k) => some k | _ => none))) = true := by kernel_rfl
theorem jfDigestMarks29 : ((Rows.digestMarksRow.pinned == Rows.digestMarksRow.pinnedBy)) = true := by kernel_rfl
theorem jfDigestMarks30 : ((Rows.digestMarksRow.veiled == (Tryz.f3.params.toList ++ Rows.digestMarksSpec.plain.varTypes Tryz.prog ++ Tryz.f3.resultTypes.toList).any (Tryz.prog.veiledRec ·))) = true := by kernel_rfl
theorem jfDigestMarks31 : (Rows.digestMarksRow.veiledFits Tryz.prog Tryz.f3.params.toList (Tryz.f3.params.toList ++ Rows.digestMarksSpec.plain.varTypes Tryz.prog ++ Tryz.f3.resultTypes.toList)) = true := by kernel_rfl
theorem jfDigestMarks : joinedFacts Tryz.prog 3 Tryz.f3 Rows.digestMarksSpec Rows.digestMarksRow = true := by
  unfold joinedFacts
  simp only [Bool.and_eq_true]
  exact ⟨⟨⟨⟨⟨⟨⟨⟨⟨⟨⟨⟨⟨⟨⟨⟨⟨⟨⟨⟨⟨⟨⟨⟨⟨⟨⟨⟨⟨⟨⟨jfDigestMarks0, jfDigestMarks1⟩, jfDigestMarks2⟩, jfDigestMarks3⟩, jfDigestMarks4⟩, jfDigestMarks5⟩, jfDigestMarks6⟩, jfDigestMarks7⟩, jfDigestMarks8⟩, jfDigestMarks9⟩, jfDigestMarks10⟩, jfDigestMarks11⟩, jfDigestMarks12⟩, jfDigestMarks13⟩, jfDigestMarks14⟩, jfDigestMarks15⟩, jfDigestMarks16⟩, jfDigestMarks17⟩, jfDigestMarks18⟩, jfDigestMarks19⟩, jfDigestMarks20⟩, jfDigestMarks21⟩, jfDigestMarks22⟩, jfDigestMarks23⟩, jfDigestMarks24⟩, jfDigestMarks25⟩, jfDigestMarks26⟩, jfDigestMarks27⟩, jfDigestMarks28⟩, jfDigestMarks29⟩, jfDigestMarks30⟩, jfDigestMarks31⟩
theorem overDigestMarks : Rows.digestMarksRow.holds Tryz.pinned (OpenSpec.ofChange Rows.digestMarksSpec) :=
  OpenClaim.holds_of_wide 3 Tryz.f3 rfl rfl rfl rfl rfl rfl rfl ⟨rfl, rfl, rfl, rfl, rfl⟩ rfl rfl rfl rfl rfl (by kernel_rfl) Tryz.func3 jfDigestMarks
    (of_decide_eq_true (by kernel_rfl)) (by unfold Func.isWrapper; first | (rw [if_pos (by decide +kernel)]; kernel_rfl) | (rw [if_neg (by decide +kernel)]; exact ⟨rfl, rfl⟩))
    (fun os started H enc _ => liftedDigestMarks os started H enc)
/-- The given statement: the card. -/
theorem DigestMarks_holds : Rows.DigestMarksCardSaid :=
  Claim7.holds_tied_plain_at .later [] [.data, .data, .data, .data, .sentinel, .sentinel, .pinned] true (true, "8da639522ac604d306c47875f6d3ee4cb95d6385886ebea1e7b8e4339ca0bd46") true overDigestMarks (fun _ h => by cases h) (by kernel_rfl) (fun _ h => by cases h) digestMarks_row_tie rfl ⟨rfl, rfl⟩ (by kernel_rfl) rfl
    (fun f fn hf hfn => by
      obtain rfl : f = 3 := Option.some.inj ((show Tryz.prog.funcNamed Rows.digestMarksRow.func = some 3 by kernel_rfl).symm.trans hf) |>.symm
      obtain rfl : fn = Tryz.f3 := (Option.some.inj (Tryz.func3.symm.trans hfn)).symm
      exact ⟨by kernel_rfl, fun j t ht => by
        rw [Tryz.params3] at ht
        have hm : t ∈ [22] := by have := Array.mem_of_getElem? ht; simpa using this
        have hall : ([22].all fun u => !Tryz.prog.wantsStandIn u) = true := by kernel_rfl
        exact (show Tryz.prog.wantsStandIn t = false by simpa using List.all_eq_true.1 hall t hm)⟩)
    (by kernel_rfl)
end Go.Proofs.YtjegcifofddgbaaGreatDoor
