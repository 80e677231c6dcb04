/-
  DigestIds: the row, out of the walk and the plain law; and its card.
-/
import Derived.Test.YtjegcifofddgbaaGreatDoorRows
import Derived.Test.YtjegcifofddgbaaGreatDoorCards
import Derived.Test.YtjegcifofddgbaaGreatDoorTie
import Derived.Test.YtjegcifofddgbaaGreatDoorZDigestIds5
import Derived.Lib.LaidTab
import Derived.Stop.LaidErr
import Derived.WalkKit
import Derived.ProofKit
import Derived.OpenShut
import Derived.ShutString
import Derived.ChangeOld
import Derived.Below
import Derived.LaidMore
import Derived.Lay
import Derived.SevenTiedAt
import Derived.Stop.Joined
namespace Go.Proofs.YtjegcifofddgbaaGreatDoor
open Go.ChangeShapes Go.WideShapes Go.ChangeAt Go.RowKit
open Go.ChangeMaps (open_string shut_string)
set_option linter.unusedVariables false
theorem ownDigestIds : ownKnob Tryz.prog.godebug = none := by kernel_rfl
theorem laidOutDigestIds : laidOutB Tryz.prog = true := by kernel_rfl
theorem plainLaidDigestIds : (Rows.digestIdsRow.laid.all fun x => x.2.handleName?.isNone) = true := by kernel_rfl
/-- What the variables that the walk reads hold when the call begins. -/
theorem globsDigestIds {W : World} (hsh : W.ShapedOpen Tryz.prog) (hL : laidMetH Tryz.prog Rows.digestIdsRow.laid W) : ∀ g cs, Go.Av.G g = some cs → Go.Av.Rel (Go.Av.Info.start W) W (Go.Av.gv cs) (.pointer (some ⟨g, 0, none⟩)) := by
  rw [MakeChecks.laidMetH_plain _ _ _ plainLaidDigestIds] at hL
  have x0 : ∃ m, W.cell? ⟨0, 0, none⟩ = some (.int .i64 m) := cell_of_shapedOpen_int (P := Tryz.prog) (g := 0) (t := 3) (zero := #[.int .i64 0]) hsh (of_decide_eq_true (by kernel_rfl)) (by kernel_rfl) rfl (by kernel_rfl) (by kernel_rfl) Tryz.underlying3
  have x1 : ∃ v, W.cell? ⟨1, 0, none⟩ = some v ∧ (v = .nilIface ∨ ∃ u y, v = .iface u y) := Go.Av.laid_iface (n := "strconv.ErrSyntax") (d := Rows.laid_strconv_ErrSyntax) hL (by simp [Rows.digestIdsRow]) (by kernel_rfl) (by kernel_rfl) Tryz.underlying72
  have x2 : ∃ v, W.cell? ⟨2, 0, none⟩ = some v ∧ (v = .nilIface ∨ ∃ u y, v = .iface u y) := Go.Av.laid_iface (n := "strconv.ErrRange") (d := Rows.laid_strconv_ErrRange) hL (by simp [Rows.digestIdsRow]) (by kernel_rfl) (by kernel_rfl) Tryz.underlying72
  have e3 : (Rows.laid_internal_strconv_uint64pow10 : DataW Unit) = Go.Lib.tabData .u64 Go.Lib.pow10Tab := by kernel_rfl
  have y3 := (laidMet.tail (laidMet.tail hL))
  have z3 : ∃ r, laidMet Tryz.prog (("internal/strconv.uint64pow10", Go.Lib.tabData .u64 Go.Lib.pow10Tab) :: r) W := by
    rw [← e3]
    exact ⟨_, y3⟩
  have x3 : Go.Lib.TabIs Tryz.prog W "internal/strconv.uint64pow10" .u64 Go.Lib.pow10Tab := by
    obtain ⟨r, h⟩ := z3
    exact Go.Lib.tabIs_of_head (g := 3) (t := 252) (e := 207) (n := 20) (by kernel_rfl) (by kernel_rfl) Tryz.underlying252 Tryz.underlying207 (by kernel_rfl) (by kernel_rfl) h
  intro g cs hG
  rcases g with _ | _ | _ | _ | g
  · obtain rfl := Option.some.inj hG
    obtain ⟨m, hm⟩ := x0
    exact Go.Av.rel_var hm (.anyk _ _)
  · obtain rfl := Option.some.inj hG
    obtain ⟨v, hv, hk⟩ := x1
    exact Go.Av.rel_var hv (Go.Av.rel_anyi hk)
  · obtain rfl := Option.some.inj hG
    obtain ⟨v, hv, hk⟩ := x2
    exact Go.Av.rel_var hv (Go.Av.rel_anyi hk)
  · obtain rfl := Option.some.inj hG
    have h := Go.Av.rel_tab (g := 3) (by kernel_rfl) x3
    simpa [Go.Lib.pow10Tab, Function.comp_def] using h
  · simp [Go.Av.G] at hG
set_option maxRecDepth 100000 in
theorem liftedDigestIds (os : Os) (started : os.Started) (H : Type) (enc : TypeId × Value → H) :
    ReturnsInHanded {} Tryz.checked os 6 .any (fun w args => (Rows.digestIdsSpec.pre enc Tryz.prog Tryz.f6 Rows.digestIdsRow.domain false w args ∧ laidMetH Tryz.prog Rows.digestIdsRow.laid w) ∧ sizedMet enc Tryz.prog Tryz.f6 (OpenSpec.ofChange Rows.digestIdsSpec) false w args)
      (Rows.digestIdsSpec.post enc Tryz.prog Tryz.f6 false true false false) := by
  refine Go.Av.returns_and_shaped (C := Tryz.checked) (X := fun w _ => laidMetH Tryz.prog Rows.digestIdsRow.laid w) (fun _ _ _ hh h => h.of_heap hh) ownDigestIds started (by kernel_rfl) Tryz.func6
    (ChangeSpec.witness_shaped (enc := enc) (C := Tryz.checked) (os := os) (X := fun w _ => laidMetH Tryz.prog Rows.digestIdsRow.laid w) false (World.laidAll Tryz.prog os Rows.digestIdsRow.laid) #[.int .i64 0, .int .i64 0, .string ByteArray.empty] 8 (World.laidAll_os _ _ _)
      (World.shaped_of_ZipB (by kernel_rfl) (by kernel_rfl)) (by kernel_rfl) (by kernel_rfl) (by kernel_rfl)
      (by rw [MakeChecks.laidMetH_plain _ _ _ plainLaidDigestIds]; exact laidMet_laidAll _ (by kernel_rfl) (by kernel_rfl))) ?_
  intro W base args ds gs before hval0 hW hsh hL
  have hval : ∀ (j : Nat) t v, Tryz.f6.params[j]? = some t → args[j]? = some v → Value.okWide Tryz.prog W .any base t v := hval0
  have hW' := hW
  obtain ⟨p, q, hA0, hV, rfl, hfz, hnd⟩ := hW
  have hA : DataW.TrodAll enc Tryz.prog W 0 (fun _ => true) true Tryz.f6.params.toList args.toList ds p := hA0
  rw [Tryz.params6] at hA hval
  obtain ⟨v0, vs0, d0, ds0, p0, q0, hargs, rfl, rfl, h0, r0⟩ := trodAll_cons hA
  obtain ⟨v1, vs1, d1, ds1, p1, q1, rfl, rfl, rfl, h1, r1⟩ := trodAll_cons r0
  obtain ⟨v2, vs2, d2, ds2, p2, q2, rfl, rfl, rfl, h2, r2⟩ := trodAll_cons r1
  obtain ⟨rfl, rfl, rfl⟩ := trodAll_nil r2
  obtain rfl : args = #[v0, v1, v2] := by cases args; simp_all
  obtain ⟨rfl, rfl⟩ := trodVars_none hV
  have k0 := h0
  have lt0 : ∀ x ∈ p0, x.block < W.heap.size := by obtain ⟨m, hm⟩ := k0; exact DataW.trod_lt m _ _ _ hm
  have k1 := h1
  have lt1 : ∀ x ∈ p1, x.block < W.heap.size := by obtain ⟨m, hm⟩ := k1; exact DataW.trod_lt m _ _ _ hm
  have k2 := h2
  have lt2 : ∀ x ∈ p2, x.block < W.heap.size := by obtain ⟨m, hm⟩ := k2; exact DataW.trod_lt m _ _ _ hm
  obtain ⟨a0, rfl, rfl, rfl, w0⟩ := open_int Tryz.underlying3 (hval 0 3 v0 rfl rfl) h0
  obtain ⟨a1, rfl, rfl, rfl, w1⟩ := open_int Tryz.underlying3 (hval 1 3 v1 rfl rfl) h1
  obtain ⟨a2, rfl, rfl, rfl, w2⟩ := open_string Tryz.underlying9 (hval 2 9 v2 rfl rfl) h2
  clear hA0 hval0
  refine (Go.Av.law_of (mP 100000 (a0) (a1) (a2.data.toList) true (Go.Dg.DigestIds_t (a0) (a1) (a2.data.toList))) (Go.Av.RelL.cons (.v _) (Go.Av.RelL.cons (.v _) (Go.Av.RelL.cons (Go.Av.rel_string _ _ a2) Go.Av.RelL.nil))) (globsDigestIds hsh hL)).mono fun e W' ⟨he, bel⟩ => ?_
  subst he
  exact ⟨_, rfl, _, _, _, [], _, [], hW', trodAll_mk1 (shut_bool Tryz.underlying4 _), (trodAll_cons_mk (Below.trod laidOutDigestIds (by kernel_rfl) (of_decide_eq_true (by kernel_rfl)) k0 bel lt0) (trodAll_cons_mk (Below.trod laidOutDigestIds (by kernel_rfl) (of_decide_eq_true (by kernel_rfl)) k1 bel lt1) (trodAll_cons_mk (Below.trod laidOutDigestIds (by kernel_rfl) (of_decide_eq_true (by kernel_rfl)) k2 bel lt2) trodAll_mk0))), rfl, bel.frame _, fun h => by cases h⟩
set_option maxRecDepth 100000
theorem jfDigestIds0 : (Rows.digestIdsRow.wf (OpenSpec.ofChange Rows.digestIdsSpec)) = true := by kernel_rfl
theorem jfDigestIds1 : (laidOutB Tryz.prog) = true := by kernel_rfl
theorem jfDigestIds2 : (mapsRowed Tryz.prog) = true := by kernel_rfl
theorem jfDigestIds3 : (Tryz.f6.params.all (Tryz.prog.readableRec ·)) = true := by kernel_rfl
theorem jfDigestIds4 : (namedTie Tryz.prog Rows.digestIdsRow.named Rows.digestIdsSpec.vars) = true := by kernel_rfl
theorem jfDigestIds5 : ((Rows.digestIdsRow.stops == [])) = true := by kernel_rfl
theorem jfDigestIds6 : ((Tryz.prog.stops == [])) = true := by kernel_rfl
theorem jfDigestIds7 : ((Rows.digestIdsRow.knobs == [])) = true := by kernel_rfl
theorem jfDigestIds8 : ((Tryz.prog.stopKnobs == [])) = true := by kernel_rfl
theorem jfDigestIds9 : ((Rows.digestIdsRow.inPlace == Tryz.prog.inPlace 6)) = true := by kernel_rfl
theorem jfDigestIds10 : ((Rows.digestIdsRow.unfollowed == Tryz.prog.unfollowed 6)) = true := by kernel_rfl
theorem jfDigestIds11 : ((Rows.digestIdsRow.recurses == Tryz.prog.recurses 6)) = true := by kernel_rfl
theorem jfDigestIds12 : ((Rows.digestIdsRow.named == Tryz.prog.varsNamed 6)) = true := by kernel_rfl
theorem jfDigestIds13 : ((Rows.digestIdsRow.maps == (Tryz.f6.params.toList ++ Rows.digestIdsSpec.plain.varTypes Tryz.prog).any (Tryz.prog.mapsRec ·))) = true := by kernel_rfl
theorem jfDigestIds14 : ((Rows.digestIdsRow.ifaces == (Tryz.f6.params.toList ++ Rows.digestIdsSpec.plain.varTypes Tryz.prog).any (Tryz.prog.ifacesRec ·))) = true := by kernel_rfl
theorem jfDigestIds15 : ((Rows.digestIdsRow.mapsOut == Tryz.prog.mapsAmong Tryz.f6.resultTypes.toList)) = true := by kernel_rfl
theorem jfDigestIds16 : ((Rows.digestIdsRow.loops == (Tryz.f6.params.toList ++ Rows.digestIdsSpec.plain.varTypes Tryz.prog).any (Tryz.prog.loopsFrom ·))) = true := by kernel_rfl
theorem jfDigestIds17 : ((Rows.digestIdsRow.wideKeys == (Tryz.f6.params.toList ++ Rows.digestIdsSpec.plain.varTypes Tryz.prog ++ Tryz.f6.resultTypes.toList).any (Tryz.prog.wideKeysFrom ·))) = true := by kernel_rfl
theorem jfDigestIds18 : (Rows.digestIdsSpec.vars.all (Tryz.prog.varReadable ·)) = true := by kernel_rfl
theorem jfDigestIds19 : (Tryz.f6.resultTypes.all (fun t => Tryz.prog.readableRec t && decide (t < Tryz.prog.types.size))) = true := by kernel_rfl
theorem jfDigestIds20 : ((Rows.digestIdsRow.ifacesOut == Tryz.f6.resultTypes.toList.any (Tryz.prog.ifacesRec ·))) = true := by kernel_rfl
theorem jfDigestIds21 : ((Rows.digestIdsRow.loopsOut == Tryz.f6.resultTypes.toList.any (Tryz.prog.loopsFrom ·))) = true := by kernel_rfl
theorem jfDigestIds22 : ((Rows.digestIdsRow.plainKeys == Tryz.prog.plainKeys)) = true := by kernel_rfl
theorem jfDigestIds23 : (Rows.digestIdsRow.shortTexts.isNone) = true := by kernel_rfl
theorem jfDigestIds24 : (Tryz.prog.stopsHeard) = true := by kernel_rfl
theorem jfDigestIds25 : (Tryz.prog.mayEnter) = true := by kernel_rfl
theorem jfDigestIds26 : ((Rows.digestIdsRow.lifted == Tryz.prog.liftsFinal)) = true := by kernel_rfl
theorem jfDigestIds27 : ((Tryz.prog.make == some Rows.digestIdsRow.make)) = true := by kernel_rfl
theorem jfDigestIds28 : ((Rows.digestIdsRow.kinds == (if Rows.digestIdsRow.domain.isEmpty then [] else Tryz.f6.params.toList.map fun t => match Tryz.prog.underlying t with | some (.int k) => some k | _ => none))) = true := by kernel_rfl
theorem jfDigestIds29 : ((Rows.digestIdsRow.pinned == Rows.digestIdsRow.pinnedBy)) = true := by kernel_rfl
theorem jfDigestIds30 : ((Rows.digestIdsRow.veiled == (Tryz.f6.params.toList ++ Rows.digestIdsSpec.plain.varTypes Tryz.prog ++ Tryz.f6.resultTypes.toList).any (Tryz.prog.veiledRec ·))) = true := by kernel_rfl
theorem jfDigestIds31 : (Rows.digestIdsRow.veiledFits Tryz.prog Tryz.f6.params.toList (Tryz.f6.params.toList ++ Rows.digestIdsSpec.plain.varTypes Tryz.prog ++ Tryz.f6.resultTypes.toList)) = true := by kernel_rfl
theorem jfDigestIds : joinedFacts Tryz.prog 6 Tryz.f6 Rows.digestIdsSpec Rows.digestIdsRow = true := by
  unfold joinedFacts
  simp only [Bool.and_eq_true]
  exact ⟨⟨⟨⟨⟨⟨⟨⟨⟨⟨⟨⟨⟨⟨⟨⟨⟨⟨⟨⟨⟨⟨⟨⟨⟨⟨⟨⟨⟨⟨⟨jfDigestIds0, jfDigestIds1⟩, jfDigestIds2⟩, jfDigestIds3⟩, jfDigestIds4⟩, jfDigestIds5⟩, jfDigestIds6⟩, jfDigestIds7⟩, jfDigestIds8⟩, jfDigestIds9⟩, jfDigestIds10⟩, jfDigestIds11⟩, jfDigestIds12⟩, jfDigestIds13⟩, jfDigestIds14⟩, jfDigestIds15⟩, jfDigestIds16⟩, jfDigestIds17⟩, jfDigestIds18⟩, jfDigestIds19⟩, jfDigestIds20⟩, jfDigestIds21⟩, jfDigestIds22⟩, jfDigestIds23⟩, jfDigestIds24⟩, jfDigestIds25⟩, jfDigestIds26⟩, jfDigestIds27⟩, jfDigestIds28⟩, jfDigestIds29⟩, jfDigestIds30⟩, jfDigestIds31⟩
theorem overDigestIds : Rows.digestIdsRow.holds Tryz.pinned (OpenSpec.ofChange Rows.digestIdsSpec) :=
  OpenClaim.holds_of_wide 6 Tryz.f6 rfl rfl rfl rfl rfl rfl rfl ⟨rfl, rfl, rfl, rfl, rfl⟩ rfl rfl rfl rfl rfl (by kernel_rfl) Tryz.func6 jfDigestIds
    (of_decide_eq_true (by kernel_rfl)) (by unfold Func.isWrapper; first | (rw [if_pos (by decide +kernel)]; kernel_rfl) | (rw [if_neg (by decide +kernel)]; exact ⟨rfl, rfl⟩))
    (fun os started H enc _ => liftedDigestIds os started H enc)
/-- The given statement: the card. -/
theorem DigestIds_holds : Rows.DigestIdsCardSaid :=
  Claim7.holds_tied_plain_at .later [] [.data, .data, .data, .data, .sentinel, .sentinel, .pinned] true (true, "8da639522ac604d306c47875f6d3ee4cb95d6385886ebea1e7b8e4339ca0bd46") true overDigestIds (fun _ h => by cases h) (by kernel_rfl) (fun _ h => by cases h) digestIds_row_tie rfl ⟨rfl, rfl⟩ (by kernel_rfl) rfl
    (fun f fn hf hfn => by
      obtain rfl : f = 6 := Option.some.inj ((show Tryz.prog.funcNamed Rows.digestIdsRow.func = some 6 by kernel_rfl).symm.trans hf) |>.symm
      obtain rfl : fn = Tryz.f6 := (Option.some.inj (Tryz.func6.symm.trans hfn)).symm
      exact ⟨by kernel_rfl, fun j t ht => by
        rw [Tryz.params6] at ht
        have hm : t ∈ [3, 9] := by have := Array.mem_of_getElem? ht; simpa using this
        have hall : ([3, 9].all fun u => !Tryz.prog.wantsStandIn u) = true := by kernel_rfl
        exact (show Tryz.prog.wantsStandIn t = false by simpa using List.all_eq_true.1 hall t hm)⟩)
    (by kernel_rfl)
end Go.Proofs.YtjegcifofddgbaaGreatDoor
