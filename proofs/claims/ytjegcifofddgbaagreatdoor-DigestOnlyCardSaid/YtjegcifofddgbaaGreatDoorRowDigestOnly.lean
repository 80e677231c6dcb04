/-
  DigestOnly: the row, out of the walk and the plain law; and its card.
-/
import Derived.Test.YtjegcifofddgbaaGreatDoorRows
import Derived.Test.YtjegcifofddgbaaGreatDoorCards
import Derived.Test.YtjegcifofddgbaaGreatDoorTie
import Derived.Test.YtjegcifofddgbaaGreatDoorZDigestOnly5
import Derived.Lib.LaidTab
import Derived.Stop.LaidErr
import Derived.WalkKit
import Derived.ProofKit
import Derived.OpenShut
import Derived.ShutString
import Derived.ChangeOld
import Derived.Below
import Derived.LaidMore
import Derived.Lay
import Derived.SevenTiedAt
import Derived.Stop.Joined
namespace Go.Proofs.YtjegcifofddgbaaGreatDoor
open Go.ChangeShapes Go.WideShapes Go.ChangeAt Go.RowKit
open Go.ChangeMaps (open_string shut_string)
set_option linter.unusedVariables false
theorem ownDigestOnly : ownKnob Tryz.prog.godebug = none := by kernel_rfl
theorem laidOutDigestOnly : laidOutB Tryz.prog = true := by kernel_rfl
theorem plainLaidDigestOnly : (Rows.digestOnlyRow.laid.all fun x => x.2.handleName?.isNone) = true := by kernel_rfl
/-- What the variables that the walk reads hold when the call begins. -/
theorem globsDigestOnly {W : World} (hsh : W.ShapedOpen Tryz.prog) (hL : laidMetH Tryz.prog Rows.digestOnlyRow.laid W) : ∀ g cs, Go.Av.G g = some cs → Go.Av.Rel (Go.Av.Info.start W) W (Go.Av.gv cs) (.pointer (some ⟨g, 0, none⟩)) := by
  rw [MakeChecks.laidMetH_plain _ _ _ plainLaidDigestOnly] at hL
  have x0 : ∃ m, W.cell? ⟨0, 0, none⟩ = some (.int .i64 m) := cell_of_shapedOpen_int (P := Tryz.prog) (g := 0) (t := 3) (zero := #[.int .i64 0]) hsh (of_decide_eq_true (by kernel_rfl)) (by kernel_rfl) rfl (by kernel_rfl) (by kernel_rfl) Tryz.underlying3
  have x1 : ∃ v, W.cell? ⟨1, 0, none⟩ = some v ∧ (v = .nilIface ∨ ∃ u y, v = .iface u y) := Go.Av.laid_iface (n := "strconv.ErrSyntax") (d := Rows.laid_strconv_ErrSyntax) hL (by simp [Rows.digestOnlyRow]) (by kernel_rfl) (by kernel_rfl) Tryz.underlying72
  have x2 : ∃ v, W.cell? ⟨2, 0, none⟩ = some v ∧ (v = .nilIface ∨ ∃ u y, v = .iface u y) := Go.Av.laid_iface (n := "strconv.ErrRange") (d := Rows.laid_strconv_ErrRange) hL (by simp [Rows.digestOnlyRow]) (by kernel_rfl) (by kernel_rfl) Tryz.underlying72
  have e3 : (Rows.laid_internal_strconv_uint64pow10 : DataW Unit) = Go.Lib.tabData .u64 Go.Lib.pow10Tab := by kernel_rfl
  have y3 := (laidMet.tail (laidMet.tail hL))
  have z3 : ∃ r, laidMet Tryz.prog (("internal/strconv.uint64pow10", Go.Lib.tabData .u64 Go.Lib.pow10Tab) :: r) W := by
    rw [← e3]
    exact ⟨_, y3⟩
  have x3 : Go.Lib.TabIs Tryz.prog W "internal/strconv.uint64pow10" .u64 Go.Lib.pow10Tab := by
    obtain ⟨r, h⟩ := z3
    exact Go.Lib.tabIs_of_head (g := 3) (t := 252) (e := 207) (n := 20) (by kernel_rfl) (by kernel_rfl) Tryz.underlying252 Tryz.underlying207 (by kernel_rfl) (by kernel_rfl) h
  intro g cs hG
  rcases g with _ | _ | _ | _ | g
  · obtain rfl := Option.some.inj hG
    obtain ⟨m, hm⟩ := x0
    exact Go.Av.rel_var hm (.anyk _ _)
  · obtain rfl := Option.some.inj hG
    obtain ⟨v, hv, hk⟩ := x1
    exact Go.Av.rel_var hv (Go.Av.rel_anyi hk)
  · obtain rfl := Option.some.inj hG
    obtain ⟨v, hv, hk⟩ := x2
    exact Go.Av.rel_var hv (Go.Av.rel_anyi hk)
  · obtain rfl := Option.some.inj hG
    have h := Go.Av.rel_tab (g := 3) (by kernel_rfl) x3
    simpa [Go.Lib.pow10Tab, Function.comp_def] using h
  · simp [Go.Av.G] at hG
set_option maxRecDepth 100000 in
theorem liftedDigestOnly (os : Os) (started : os.Started) (H : Type) (enc : TypeId × Value → H) :
    ReturnsInHanded {} Tryz.checked os 7 .any (fun w args => (Rows.digestOnlySpec.pre enc Tryz.prog Tryz.f7 Rows.digestOnlyRow.domain false w args ∧ laidMetH Tryz.prog Rows.digestOnlyRow.laid w) ∧ sizedMet enc Tryz.prog Tryz.f7 (OpenSpec.ofChange Rows.digestOnlySpec) false w args)
      (Rows.digestOnlySpec.post enc Tryz.prog Tryz.f7 false true false false) := by
  refine Go.Av.returns_and_shaped (C := Tryz.checked) (X := fun w _ => laidMetH Tryz.prog Rows.digestOnlyRow.laid w) (fun _ _ _ hh h => h.of_heap hh) ownDigestOnly started (by kernel_rfl) Tryz.func7
    (ChangeSpec.witness_shaped (enc := enc) (C := Tryz.checked) (os := os) (X := fun w _ => laidMetH Tryz.prog Rows.digestOnlyRow.laid w) false (World.laidAll Tryz.prog os Rows.digestOnlyRow.laid) #[.int .i64 0, .int .i64 0, .int .i64 0, .int .i64 0] 8 (World.laidAll_os _ _ _)
      (World.shaped_of_ZipB (by kernel_rfl) (by kernel_rfl)) (by kernel_rfl) (by kernel_rfl) (by kernel_rfl)
      (by rw [MakeChecks.laidMetH_plain _ _ _ plainLaidDigestOnly]; exact laidMet_laidAll _ (by kernel_rfl) (by kernel_rfl))) ?_
  intro W base args ds gs before hval0 hW hsh hL
  have hval : ∀ (j : Nat) t v, Tryz.f7.params[j]? = some t → args[j]? = some v → Value.okWide Tryz.prog W .any base t v := hval0
  have hW' := hW
  obtain ⟨p, q, hA0, hV, rfl, hfz, hnd⟩ := hW
  have hA : DataW.TrodAll enc Tryz.prog W 0 (fun _ => true) true Tryz.f7.params.toList args.toList ds p := hA0
  rw [Tryz.params7] at hA hval
  obtain ⟨v0, vs0, d0, ds0, p0, q0, hargs, rfl, rfl, h0, r0⟩ := trodAll_cons hA
  obtain ⟨v1, vs1, d1, ds1, p1, q1, rfl, rfl, rfl, h1, r1⟩ := trodAll_cons r0
  obtain ⟨v2, vs2, d2, ds2, p2, q2, rfl, rfl, rfl, h2, r2⟩ := trodAll_cons r1
  obtain ⟨v3, vs3, d3, ds3, p3, q3, rfl, rfl, rfl, h3, r3⟩ := trodAll_cons r2
  obtain ⟨rfl, rfl, rfl⟩ := trodAll_nil r3
  obtain rfl : args = #[v0, v1, v2, v3] := by cases args; simp_all
  obtain ⟨rfl, rfl⟩ := trodVars_none hV
  have k0 := h0
  have lt0 : ∀ x ∈ p0, x.block < W.heap.size := by obtain ⟨m, hm⟩ := k0; exact DataW.trod_lt m _ _ _ hm
  have k1 := h1
  have lt1 : ∀ x ∈ p1, x.block < W.heap.size := by obtain ⟨m, hm⟩ := k1; exact DataW.trod_lt m _ _ _ hm
  have k2 := h2
  have lt2 : ∀ x ∈ p2, x.block < W.heap.size := by obtain ⟨m, hm⟩ := k2; exact DataW.trod_lt m _ _ _ hm
  have k3 := h3
  have lt3 : ∀ x ∈ p3, x.block < W.heap.size := by obtain ⟨m, hm⟩ := k3; exact DataW.trod_lt m _ _ _ hm
  obtain ⟨a0, rfl, rfl, rfl, w0⟩ := open_int Tryz.underlying3 (hval 0 3 v0 rfl rfl) h0
  obtain ⟨a1, rfl, rfl, rfl, w1⟩ := open_int Tryz.underlying3 (hval 1 3 v1 rfl rfl) h1
  obtain ⟨a2, rfl, rfl, rfl, w2⟩ := open_int Tryz.underlying3 (hval 2 3 v2 rfl rfl) h2
  obtain ⟨a3, rfl, rfl, rfl, w3⟩ := open_int Tryz.underlying3 (hval 3 3 v3 rfl rfl) h3
  clear hA0 hval0
  refine (Go.Av.law_of (lK 100000 (a0) (a1) (a2) (a3) true (Go.Dg.DigestOnly_t (a0) (a1) (a2) (a3))) (Go.Av.RelL.cons (.v _) (Go.Av.RelL.cons (.v _) (Go.Av.RelL.cons (.v _) (Go.Av.RelL.cons (.v _) Go.Av.RelL.nil)))) (globsDigestOnly hsh hL)).mono fun e W' ⟨he, bel⟩ => ?_
  subst he
  exact ⟨_, rfl, _, _, _, [], _, [], hW', trodAll_mk1 (shut_bool Tryz.underlying4 _), (trodAll_cons_mk (Below.trod laidOutDigestOnly (by kernel_rfl) (of_decide_eq_true (by kernel_rfl)) k0 bel lt0) (trodAll_cons_mk (Below.trod laidOutDigestOnly (by kernel_rfl) (of_decide_eq_true (by kernel_rfl)) k1 bel lt1) (trodAll_cons_mk (Below.trod laidOutDigestOnly (by kernel_rfl) (of_decide_eq_true (by kernel_rfl)) k2 bel lt2) (trodAll_cons_mk (Below.trod laidOutDigestOnly (by kernel_rfl) (of_decide_eq_true (by kernel_rfl)) k3 bel lt3) trodAll_mk0)))), rfl, bel.frame _, fun h => by cases h⟩
set_option maxRecDepth 100000
theorem jfDigestOnly0 : (Rows.digestOnlyRow.wf (OpenSpec.ofChange Rows.digestOnlySpec)) = true := by kernel_rfl
theorem jfDigestOnly1 : (laidOutB Tryz.prog) = true := by kernel_rfl
theorem jfDigestOnly2 : (mapsRowed Tryz.prog) = true := by kernel_rfl
theorem jfDigestOnly3 : (Tryz.f7.params.all (Tryz.prog.readableRec ·)) = true := by kernel_rfl
theorem jfDigestOnly4 : (namedTie Tryz.prog Rows.digestOnlyRow.named Rows.digestOnlySpec.vars) = true := by kernel_rfl
theorem jfDigestOnly5 : ((Rows.digestOnlyRow.stops == [])) = true := by kernel_rfl
theorem jfDigestOnly6 : ((Tryz.prog.stops == [])) = true := by kernel_rfl
theorem jfDigestOnly7 : ((Rows.digestOnlyRow.knobs == [])) = true := by kernel_rfl
theorem jfDigestOnly8 : ((Tryz.prog.stopKnobs == [])) = true := by kernel_rfl
theorem jfDigestOnly9 : ((Rows.digestOnlyRow.inPlace == Tryz.prog.inPlace 7)) = true := by kernel_rfl
theorem jfDigestOnly10 : ((Rows.digestOnlyRow.unfollowed == Tryz.prog.unfollowed 7)) = true := by kernel_rfl
theorem jfDigestOnly11 : ((Rows.digestOnlyRow.recurses == Tryz.prog.recurses 7)) = true := by kernel_rfl
theorem jfDigestOnly12 : ((Rows.digestOnlyRow.named == Tryz.prog.varsNamed 7)) = true := by kernel_rfl
theorem jfDigestOnly13 : ((Rows.digestOnlyRow.maps == (Tryz.f7.params.toList ++ Rows.digestOnlySpec.plain.varTypes Tryz.prog).any (Tryz.prog.mapsRec ·))) = true := by kernel_rfl
theorem jfDigestOnly14 : ((Rows.digestOnlyRow.ifaces == (Tryz.f7.params.toList ++ Rows.digestOnlySpec.plain.varTypes Tryz.prog).any (Tryz.prog.ifacesRec ·))) = true := by kernel_rfl
theorem jfDigestOnly15 : ((Rows.digestOnlyRow.mapsOut == Tryz.prog.mapsAmong Tryz.f7.resultTypes.toList)) = true := by kernel_rfl
theorem jfDigestOnly16 : ((Rows.digestOnlyRow.loops == (Tryz.f7.params.toList ++ Rows.digestOnlySpec.plain.varTypes Tryz.prog).any (Tryz.prog.loopsFrom ·))) = true := by kernel_rfl
theorem jfDigestOnly17 : ((Rows.digestOnlyRow.wideKeys == (Tryz.f7.params.toList ++ Rows.digestOnlySpec.plain.varTypes Tryz.prog ++ Tryz.f7.resultTypes.toList).any (Tryz.prog.wideKeysFrom ·))) = true := by kernel_rfl
theorem jfDigestOnly18 : (Rows.digestOnlySpec.vars.all (Tryz.prog.varReadable ·)) = true := by kernel_rfl
theorem jfDigestOnly19 : (Tryz.f7.resultTypes.all (fun t => Tryz.prog.readableRec t && decide (t < Tryz.prog.types.size))) = true := by kernel_rfl
theorem jfDigestOnly20 : ((Rows.digestOnlyRow.ifacesOut == Tryz.f7.resultTypes.toList.any (Tryz.prog.ifacesRec ·))) = true := by kernel_rfl
theorem jfDigestOnly21 : ((Rows.digestOnlyRow.loopsOut == Tryz.f7.resultTypes.toList.any (Tryz.prog.loopsFrom ·))) = true := by kernel_rfl
theorem jfDigestOnly22 : ((Rows.digestOnlyRow.plainKeys == Tryz.prog.plainKeys)) = true := by kernel_rfl
theorem jfDigestOnly23 : (Rows.digestOnlyRow.shortTexts.isNone) = true := by kernel_rfl
theorem jfDigestOnly24 : (Tryz.prog.stopsHeard) = true := by kernel_rfl
theorem jfDigestOnly25 : (Tryz.prog.mayEnter) = true := by kernel_rfl
theorem jfDigestOnly26 : ((Rows.digestOnlyRow.lifted == Tryz.prog.liftsFinal)) = true := by kernel_rfl
theorem jfDigestOnly27 : ((Tryz.prog.make == some Rows.digestOnlyRow.make)) = true := by kernel_rfl
theorem jfDigestOnly28 : ((Rows.digestOnlyRow.kinds == (if Rows.digestOnlyRow.domain.isEmpty then [] else Tryz.f7.params.toList.map fun t => match Tryz.prog.underlying t with | some (.int k) => some k | _ => none))) = true := by kernel_rfl
theorem jfDigestOnly29 : ((Rows.digestOnlyRow.pinned == Rows.digestOnlyRow.pinnedBy)) = true := by kernel_rfl
theorem jfDigestOnly30 : ((Rows.digestOnlyRow.veiled == (Tryz.f7.params.toList ++ Rows.digestOnlySpec.plain.varTypes Tryz.prog ++ Tryz.f7.resultTypes.toList).any (Tryz.prog.veiledRec ·))) = true := by kernel_rfl
theorem jfDigestOnly31 : (Rows.digestOnlyRow.veiledFits Tryz.prog Tryz.f7.params.toList (Tryz.f7.params.toList ++ Rows.digestOnlySpec.plain.varTypes Tryz.prog ++ Tryz.f7.resultTypes.toList)) = true := by kernel_rfl
theorem jfDigestOnly : joinedFacts Tryz.prog 7 Tryz.f7 Rows.digestOnlySpec Rows.digestOnlyRow = true := by
  unfold joinedFacts
  simp only [Bool.and_eq_true]
  exact ⟨⟨⟨⟨⟨⟨⟨⟨⟨⟨⟨⟨⟨⟨⟨⟨⟨⟨⟨⟨⟨⟨⟨⟨⟨⟨⟨⟨⟨⟨⟨jfDigestOnly0, jfDigestOnly1⟩, jfDigestOnly2⟩, jfDigestOnly3⟩, jfDigestOnly4⟩, jfDigestOnly5⟩, jfDigestOnly6⟩, jfDigestOnly7⟩, jfDigestOnly8⟩, jfDigestOnly9⟩, jfDigestOnly10⟩, jfDigestOnly11⟩, jfDigestOnly12⟩, jfDigestOnly13⟩, jfDigestOnly14⟩, jfDigestOnly15⟩, jfDigestOnly16⟩, jfDigestOnly17⟩, jfDigestOnly18⟩, jfDigestOnly19⟩, jfDigestOnly20⟩, jfDigestOnly21⟩, jfDigestOnly22⟩, jfDigestOnly23⟩, jfDigestOnly24⟩, jfDigestOnly25⟩, jfDigestOnly26⟩, jfDigestOnly27⟩, jfDigestOnly28⟩, jfDigestOnly29⟩, jfDigestOnly30⟩, jfDigestOnly31⟩
theorem overDigestOnly : Rows.digestOnlyRow.holds Tryz.pinned (OpenSpec.ofChange Rows.digestOnlySpec) :=
  OpenClaim.holds_of_wide 7 Tryz.f7 rfl rfl rfl rfl rfl rfl rfl ⟨rfl, rfl, rfl, rfl, rfl⟩ rfl rfl rfl rfl rfl (by kernel_rfl) Tryz.func7 jfDigestOnly
    (of_decide_eq_true (by kernel_rfl)) (by unfold Func.isWrapper; first | (rw [if_pos (by decide +kernel)]; kernel_rfl) | (rw [if_neg (by decide +kernel)]; exact ⟨rfl, rfl⟩))
    (fun os started H enc _ => liftedDigestOnly os started H enc)
/-- The given statement: the card. -/
theorem DigestOnly_holds : Rows.DigestOnlyCardSaid :=
  Claim7.holds_tied_plain_at .later [] [.data, .data, .data, .data, .sentinel, .sentinel, .pinned] true (true, "8da639522ac604d306c47875f6d3ee4cb95d6385886ebea1e7b8e4339ca0bd46") true overDigestOnly (fun _ h => by cases h) (by kernel_rfl) (fun _ h => by cases h) digestOnly_row_tie rfl ⟨rfl, rfl⟩ (by kernel_rfl) rfl
    (fun f fn hf hfn => by
      obtain rfl : f = 7 := Option.some.inj ((show Tryz.prog.funcNamed Rows.digestOnlyRow.func = some 7 by kernel_rfl).symm.trans hf) |>.symm
      obtain rfl : fn = Tryz.f7 := (Option.some.inj (Tryz.func7.symm.trans hfn)).symm
      exact ⟨by kernel_rfl, fun j t ht => by
        rw [Tryz.params7] at ht
        have hm : t ∈ [3] := by have := Array.mem_of_getElem? ht; simpa using this
        have hall : ([3].all fun u => !Tryz.prog.wantsStandIn u) = true := by kernel_rfl
        exact (show Tryz.prog.wantsStandIn t = false by simpa using List.all_eq_true.1 hall t hm)⟩)
    (by kernel_rfl)
end Go.Proofs.YtjegcifofddgbaaGreatDoor
