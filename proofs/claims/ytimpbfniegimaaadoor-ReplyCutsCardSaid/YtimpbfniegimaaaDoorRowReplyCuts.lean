/-
  ReplyCuts: the row, out of the walk and the plain law; and its card.
-/
import Derived.Test.YtimpbfniegimaaaDoorRows
import Derived.Test.YtimpbfniegimaaaDoorCards
import Derived.Test.YtimpbfniegimaaaDoorTie
import Derived.Test.YtimpbfniegimaaaDoorZReplyCuts3
import Derived.Lib.LaidTab
import Derived.Stop.LaidErr
import Derived.WalkKit
import Derived.ProofKit
import Derived.OpenShut
import Derived.ShutString
import Derived.ChangeOld
import Derived.Below
import Derived.LaidMore
import Derived.Lay
import Derived.SevenTiedAt
import Derived.Stop.Joined
namespace Go.Proofs.YtimpbfniegimaaaDoor
open Go.ChangeShapes Go.WideShapes Go.ChangeAt Go.RowKit
open Go.ChangeMaps (open_string shut_string)
set_option linter.unusedVariables false
theorem ownReplyCuts : ownKnob Tryd.prog.godebug = none := by kernel_rfl
theorem laidOutReplyCuts : laidOutB Tryd.prog = true := by kernel_rfl
theorem plainLaidReplyCuts : (Rows.replyCutsRow.laid.all fun x => x.2.handleName?.isNone) = true := by kernel_rfl
/-- What the variables that the walk reads hold when the call begins. -/
theorem globsReplyCuts {W : World} (hsh : W.ShapedOpen Tryd.prog) (hL : laidMetH Tryd.prog Rows.replyCutsRow.laid W) : ∀ g cs, Go.Av.G g = some cs → Go.Av.Rel (Go.Av.Info.start W) W (Go.Av.gv cs) (.pointer (some ⟨g, 0, none⟩)) := by
  rw [MakeChecks.laidMetH_plain _ _ _ plainLaidReplyCuts] at hL
  have x0 : ∃ m, W.cell? ⟨0, 0, none⟩ = some (.int .i64 m) := cell_of_shapedOpen_int (P := Tryd.prog) (g := 0) (t := 3) (zero := #[.int .i64 0]) hsh (of_decide_eq_true (by kernel_rfl)) (by kernel_rfl) rfl (by kernel_rfl) (by kernel_rfl) Tryd.underlying3
  have e1 : (Rows.laid_internal_strconv_uint64pow10 : DataW Unit) = Go.Lib.tabData .u64 Go.Lib.pow10Tab := by kernel_rfl
  have y1 := (laidMet.tail (laidMet.tail hL))
  have z1 : ∃ r, laidMet Tryd.prog (("internal/strconv.uint64pow10", Go.Lib.tabData .u64 Go.Lib.pow10Tab) :: r) W := by
    rw [← e1]
    exact ⟨_, y1⟩
  have x1 : Go.Lib.TabIs Tryd.prog W "internal/strconv.uint64pow10" .u64 Go.Lib.pow10Tab := by
    obtain ⟨r, h⟩ := z1
    exact Go.Lib.tabIs_of_head (g := 1) (t := 115) (e := 97) (n := 20) (by kernel_rfl) (by kernel_rfl) Tryd.underlying115 Tryd.underlying97 (by kernel_rfl) (by kernel_rfl) h
  have x2 : ∃ v, W.cell? ⟨2, 0, none⟩ = some v ∧ (v = .nilIface ∨ ∃ u y, v = .iface u y) := Go.Av.laid_iface (n := "strconv.ErrSyntax") (d := Rows.laid_strconv_ErrSyntax) hL (by simp [Rows.replyCutsRow]) (by kernel_rfl) (by kernel_rfl) Tryd.underlying81
  have x3 : ∃ v, W.cell? ⟨3, 0, none⟩ = some v ∧ (v = .nilIface ∨ ∃ u y, v = .iface u y) := Go.Av.laid_iface (n := "strconv.ErrRange") (d := Rows.laid_strconv_ErrRange) hL (by simp [Rows.replyCutsRow]) (by kernel_rfl) (by kernel_rfl) Tryd.underlying81
  intro g cs hG
  rcases g with _ | _ | _ | _ | g
  · obtain rfl := Option.some.inj hG
    obtain ⟨m, hm⟩ := x0
    exact Go.Av.rel_var hm (.anyk _ _)
  · obtain rfl := Option.some.inj hG
    have h := Go.Av.rel_tab (g := 1) (by kernel_rfl) x1
    simpa [Go.Lib.pow10Tab, Function.comp_def] using h
  · obtain rfl := Option.some.inj hG
    obtain ⟨v, hv, hk⟩ := x2
    exact Go.Av.rel_var hv (Go.Av.rel_anyi hk)
  · obtain rfl := Option.some.inj hG
    obtain ⟨v, hv, hk⟩ := x3
    exact Go.Av.rel_var hv (Go.Av.rel_anyi hk)
  · simp [Go.Av.G] at hG
set_option maxRecDepth 100000 in
theorem liftedReplyCuts (os : Os) (started : os.Started) (H : Type) (enc : TypeId × Value → H) :
    ReturnsInHanded {} Tryd.checked os 3 .any (fun w args => (Rows.replyCutsSpec.pre enc Tryd.prog Tryd.f3 Rows.replyCutsRow.domain false w args ∧ laidMetH Tryd.prog Rows.replyCutsRow.laid w) ∧ sizedMet enc Tryd.prog Tryd.f3 (OpenSpec.ofChange Rows.replyCutsSpec) false w args)
      (Rows.replyCutsSpec.post enc Tryd.prog Tryd.f3 false true false false) := by
  refine Go.Av.returns_and_shaped (C := Tryd.checked) (X := fun w _ => laidMetH Tryd.prog Rows.replyCutsRow.laid w) (fun _ _ _ hh h => h.of_heap hh) ownReplyCuts started (by kernel_rfl) Tryd.func3
    (ChangeSpec.witness_shaped (enc := enc) (C := Tryd.checked) (os := os) (X := fun w _ => laidMetH Tryd.prog Rows.replyCutsRow.laid w) false (World.laidAll Tryd.prog os Rows.replyCutsRow.laid) #[.slice none 0 0, .slice none 0 0] 8 (World.laidAll_os _ _ _)
      (World.shaped_of_ZipB (by kernel_rfl) (by kernel_rfl)) (by kernel_rfl) (by kernel_rfl) (by kernel_rfl)
      (by rw [MakeChecks.laidMetH_plain _ _ _ plainLaidReplyCuts]; exact laidMet_laidAll _ (by kernel_rfl) (by kernel_rfl))) ?_
  intro W base args ds gs before hval0 hW hsh hL
  have hval : ∀ (j : Nat) t v, Tryd.f3.params[j]? = some t → args[j]? = some v → Value.okWide Tryd.prog W .any base t v := hval0
  have hW' := hW
  obtain ⟨p, q, hA0, hV, rfl, hfz, hnd⟩ := hW
  have hA : DataW.TrodAll enc Tryd.prog W 0 (fun _ => true) true Tryd.f3.params.toList args.toList ds p := hA0
  rw [Tryd.params3] at hA hval
  obtain ⟨v0, vs0, d0, ds0, p0, q0, hargs, rfl, rfl, h0, r0⟩ := trodAll_cons hA
  obtain ⟨v1, vs1, d1, ds1, p1, q1, rfl, rfl, rfl, h1, r1⟩ := trodAll_cons r0
  obtain ⟨rfl, rfl, rfl⟩ := trodAll_nil r1
  obtain rfl : args = #[v0, v1] := by cases args; simp_all
  obtain ⟨rfl, rfl⟩ := trodVars_none hV
  have k0 := h0
  have lt0 : ∀ x ∈ p0, x.block < W.heap.size := by obtain ⟨m, hm⟩ := k0; exact DataW.trod_lt m _ _ _ hm
  have k1 := h1
  have lt1 : ∀ x ∈ p1, x.block < W.heap.size := by obtain ⟨m, hm⟩ := k1; exact DataW.trod_lt m _ _ _ hm
  obtain ⟨a0, len0, cap0, rfl⟩ := okWide_slice Tryd.underlying22 (hval 0 22 v0 rfl rfl)
  obtain ⟨l0, hl0, hm0, w0⟩ : ∃ l : List UInt8, l.length = len0 ∧ len0 ≤ maxLen ∧ Go.Av.Rel (Go.Av.Info.start W) W (Go.Av.slE Go.Av.Enc.byte l none) (.slice a0 len0 cap0) := by
    obtain ⟨fuel, hf⟩ := h0
    rcases open_ints Tryd.underlying22 Tryd.underlying5 (by kernel_rfl) hf with ⟨hcs, _⟩ | ⟨x, l, c, zs, hcs, _, hl, hm, hz, _, hcell, hwz⟩
    · simp [Value.cells] at hcs
      obtain ⟨rfl, rfl, rfl⟩ := hcs
      exact Go.Av.rel_bytes (.inl ⟨rfl, rfl, rfl, rfl⟩)
    · simp [Value.cells] at hcs
      obtain ⟨rfl, rfl, rfl⟩ := hcs
      exact Go.Av.rel_bytes (.inr ⟨_, rfl, hl, hm, by simpa using hz, hcell, hwz⟩)
  obtain ⟨a1, len1, cap1, rfl⟩ := okWide_slice Tryd.underlying23 (hval 1 23 v1 rfl rfl)
  obtain ⟨l1, _, w1⟩ := Go.Av.one_of (P := Tryd.prog) (w := W) rfl h1 (Go.Av.opens_ints Tryd.underlying23 Tryd.underlying3 (by kernel_rfl))
  clear hA0 hval0
  refine (Go.Av.law_of (gY 2000000 (l0) none (l1) none true (Go.Rp.ReplyCuts_t (l0) (l1))) (Go.Av.RelL.cons w0 (Go.Av.RelL.cons w1 Go.Av.RelL.nil)) (globsReplyCuts hsh hL)).mono fun e W' ⟨he, bel⟩ => ?_
  subst he
  exact ⟨_, rfl, _, _, _, [], _, [], hW', trodAll_mk1 (shut_bool Tryd.underlying4 _), (trodAll_cons_mk (Below.trod laidOutReplyCuts (by kernel_rfl) (of_decide_eq_true (by kernel_rfl)) k0 bel lt0) (trodAll_cons_mk (Below.trod laidOutReplyCuts (by kernel_rfl) (of_decide_eq_true (by kernel_rfl)) k1 bel lt1) trodAll_mk0)), rfl, bel.frame _, fun h => by cases h⟩
set_option maxRecDepth 100000
theorem jfReplyCuts0 : (Rows.replyCutsRow.wf (OpenSpec.ofChange Rows.replyCutsSpec)) = true := by kernel_rfl
theorem jfReplyCuts1 : (laidOutB Tryd.prog) = true := by kernel_rfl
theorem jfReplyCuts2 : (mapsRowed Tryd.prog) = true := by kernel_rfl
theorem jfReplyCuts3 : (Tryd.f3.params.all (Tryd.prog.readableRec ·)) = true := by kernel_rfl
theorem jfReplyCuts4 : (namedTie Tryd.prog Rows.replyCutsRow.named Rows.replyCutsSpec.vars) = true := by kernel_rfl
theorem jfReplyCuts5 : ((Rows.replyCutsRow.stops == [])) = true := by kernel_rfl
theorem jfReplyCuts6 : ((Tryd.prog.stops == [])) = true := by kernel_rfl
theorem jfReplyCuts7 : ((Rows.replyCutsRow.knobs == [])) = true := by kernel_rfl
theorem jfReplyCuts8 : ((Tryd.prog.stopKnobs == [])) = true := by kernel_rfl
theorem jfReplyCuts9 : ((Rows.replyCutsRow.inPlace == Tryd.prog.inPlace 3)) = true := by kernel_rfl
theorem jfReplyCuts10 : ((Rows.replyCutsRow.unfollowed == Tryd.prog.unfollowed 3)) = true := by kernel_rfl
theorem jfReplyCuts11 : ((Rows.replyCutsRow.recurses == Tryd.prog.recurses 3)) = true := by kernel_rfl
theorem jfReplyCuts12 : ((Rows.replyCutsRow.named == Tryd.prog.varsNamed 3)) = true := by kernel_rfl
theorem jfReplyCuts13 : ((Rows.replyCutsRow.maps == (Tryd.f3.params.toList ++ Rows.replyCutsSpec.plain.varTypes Tryd.prog).any (Tryd.prog.mapsRec ·))) = true := by kernel_rfl
theorem jfReplyCuts14 : ((Rows.replyCutsRow.ifaces == (Tryd.f3.params.toList ++ Rows.replyCutsSpec.plain.varTypes Tryd.prog).any (Tryd.prog.ifacesRec ·))) = true := by kernel_rfl
theorem jfReplyCuts15 : ((Rows.replyCutsRow.mapsOut == Tryd.prog.mapsAmong Tryd.f3.resultTypes.toList)) = true := by kernel_rfl
theorem jfReplyCuts16 : ((Rows.replyCutsRow.loops == (Tryd.f3.params.toList ++ Rows.replyCutsSpec.plain.varTypes Tryd.prog).any (Tryd.prog.loopsFrom ·))) = true := by kernel_rfl
theorem jfReplyCuts17 : ((Rows.replyCutsRow.wideKeys == (Tryd.f3.params.toList ++ Rows.replyCutsSpec.plain.varTypes Tryd.prog ++ Tryd.f3.resultTypes.toList).any (Tryd.prog.wideKeysFrom ·))) = true := by kernel_rfl
theorem jfReplyCuts18 : (Rows.replyCutsSpec.vars.all (Tryd.prog.varReadable ·)) = true := by kernel_rfl
theorem jfReplyCuts19 : (Tryd.f3.resultTypes.all (fun t => Tryd.prog.readableRec t && decide (t < Tryd.prog.types.size))) = true := by kernel_rfl
theorem jfReplyCuts20 : ((Rows.replyCutsRow.ifacesOut == Tryd.f3.resultTypes.toList.any (Tryd.prog.ifacesRec ·))) = true := by kernel_rfl
theorem jfReplyCuts21 : ((Rows.replyCutsRow.loopsOut == Tryd.f3.resultTypes.toList.any (Tryd.prog.loopsFrom ·))) = true := by kernel_rfl
theorem jfReplyCuts22 : ((Rows.replyCutsRow.plainKeys == Tryd.prog.plainKeys)) = true := by kernel_rfl
theorem jfReplyCuts23 : (Rows.replyCutsRow.shortTexts.isNone) = true := by kernel_rfl
theorem jfReplyCuts24 : (Tryd.prog.stopsHeard) = true := by kernel_rfl
theorem jfReplyCuts25 : (Tryd.prog.mayEnter) = true := by kernel_rfl
theorem jfReplyCuts26 : ((Rows.replyCutsRow.lifted == Tryd.prog.liftsFinal)) = true := by kernel_rfl
theorem jfReplyCuts27 : ((Tryd.prog.make == some Rows.replyCutsRow.make)) = true := by kernel_rfl
theorem jfReplyCuts28 : ((Rows.replyCutsRow.kinds == (if Rows.replyCutsRow.domain.isEmpty then [] else Tryd.f3.params.toList.map fun t => match Tryd.prog.underlying t with | some (.int k) => some k | _ => none))) = true := by kernel_rfl
theorem jfReplyCuts29 : ((Rows.replyCutsRow.pinned == Rows.replyCutsRow.pinnedBy)) = true := by kernel_rfl
theorem jfReplyCuts30 : ((Rows.replyCutsRow.veiled == (Tryd.f3.params.toList ++ Rows.replyCutsSpec.plain.varTypes Tryd.prog ++ Tryd.f3.resultTypes.toList).any (Tryd.prog.veiledRec ·))) = true := by kernel_rfl
theorem jfReplyCuts31 : (Rows.replyCutsRow.veiledFits Tryd.prog Tryd.f3.params.toList (Tryd.f3.params.toList ++ Rows.replyCutsSpec.plain.varTypes Tryd.prog ++ Tryd.f3.resultTypes.toList)) = true := by kernel_rfl
theorem jfReplyCuts : joinedFacts Tryd.prog 3 Tryd.f3 Rows.replyCutsSpec Rows.replyCutsRow = true := by
  unfold joinedFacts
  simp only [Bool.and_eq_true]
  exact ⟨⟨⟨⟨⟨⟨⟨⟨⟨⟨⟨⟨⟨⟨⟨⟨⟨⟨⟨⟨⟨⟨⟨⟨⟨⟨⟨⟨⟨⟨⟨jfReplyCuts0, jfReplyCuts1⟩, jfReplyCuts2⟩, jfReplyCuts3⟩, jfReplyCuts4⟩, jfReplyCuts5⟩, jfReplyCuts6⟩, jfReplyCuts7⟩, jfReplyCuts8⟩, jfReplyCuts9⟩, jfReplyCuts10⟩, jfReplyCuts11⟩, jfReplyCuts12⟩, jfReplyCuts13⟩, jfReplyCuts14⟩, jfReplyCuts15⟩, jfReplyCuts16⟩, jfReplyCuts17⟩, jfReplyCuts18⟩, jfReplyCuts19⟩, jfReplyCuts20⟩, jfReplyCuts21⟩, jfReplyCuts22⟩, jfReplyCuts23⟩, jfReplyCuts24⟩, jfReplyCuts25⟩, jfReplyCuts26⟩, jfReplyCuts27⟩, jfReplyCuts28⟩, jfReplyCuts29⟩, jfReplyCuts30⟩, jfReplyCuts31⟩
theorem overReplyCuts : Rows.replyCutsRow.holds Tryd.pinned (OpenSpec.ofChange Rows.replyCutsSpec) :=
  OpenClaim.holds_of_wide 3 Tryd.f3 rfl rfl rfl rfl rfl rfl rfl ⟨rfl, rfl, rfl, rfl, rfl⟩ rfl rfl rfl rfl rfl (by kernel_rfl) Tryd.func3 jfReplyCuts
    (of_decide_eq_true (by kernel_rfl)) (by unfold Func.isWrapper; first | (rw [if_pos (by decide +kernel)]; kernel_rfl) | (rw [if_neg (by decide +kernel)]; exact ⟨rfl, rfl⟩))
    (fun os started H enc _ => liftedReplyCuts os started H enc)
/-- The given statement: the card. -/
theorem ReplyCuts_holds : Rows.ReplyCutsCardSaid :=
  Claim7.holds_tied_plain_at .later [] [.data, .data, .data, .data, .sentinel, .sentinel, .pinned] true (true, "8621b3c558fc8430ed761eff9713f5722433eb2b533ffc2002dff6a3e0b31e5b") true overReplyCuts (fun _ h => by cases h) (by kernel_rfl) (fun _ h => by cases h) replyCuts_row_tie rfl ⟨rfl, rfl⟩ (by kernel_rfl) rfl
    (fun f fn hf hfn => by
      obtain rfl : f = 3 := Option.some.inj ((show Tryd.prog.funcNamed Rows.replyCutsRow.func = some 3 by kernel_rfl).symm.trans hf) |>.symm
      obtain rfl : fn = Tryd.f3 := (Option.some.inj (Tryd.func3.symm.trans hfn)).symm
      exact ⟨by kernel_rfl, fun j t ht => by
        rw [Tryd.params3] at ht
        have hm : t ∈ [22, 23] := by have := Array.mem_of_getElem? ht; simpa using this
        have hall : ([22, 23].all fun u => !Tryd.prog.wantsStandIn u) = true := by kernel_rfl
        exact (show Tryd.prog.wantsStandIn t = false by simpa using List.all_eq_true.1 hall t hm)⟩)
    (by kernel_rfl)
end Go.Proofs.YtimpbfniegimaaaDoor
