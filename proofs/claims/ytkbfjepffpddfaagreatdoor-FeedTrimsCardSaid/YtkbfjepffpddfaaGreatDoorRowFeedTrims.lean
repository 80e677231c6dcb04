/-
  FeedTrims: the row, out of the walk and the plain law; and its card.
-/
import Derived.Test.YtkbfjepffpddfaaGreatDoorRows
import Derived.Test.YtkbfjepffpddfaaGreatDoorCards
import Derived.Test.YtkbfjepffpddfaaGreatDoorTie
import Derived.Test.YtkbfjepffpddfaaGreatDoorZFeedTrims5
import Derived.WalkKit
import Derived.ProofKit
import Derived.OpenShut
import Derived.ShutString
import Derived.ChangeOld
import Derived.Below
import Derived.LaidMore
import Derived.Lay
import Derived.SevenTiedAt
import Derived.Stop.Joined
namespace Go.Proofs.YtkbfjepffpddfaaGreatDoor
open Go.ChangeShapes Go.WideShapes Go.ChangeAt Go.RowKit
open Go.ChangeMaps (open_string shut_string)
set_option linter.unusedVariables false
theorem ownFeedTrims : ownKnob Tryz.prog.godebug = none := by kernel_rfl
theorem laidOutFeedTrims : laidOutB Tryz.prog = true := by kernel_rfl
theorem plainLaidFeedTrims : (Rows.feedTrimsRow.laid.all fun x => x.2.handleName?.isNone) = true := by kernel_rfl
/-- What the variables that the walk reads hold when the call begins. -/
theorem globsFeedTrims {W : World} (hsh : W.ShapedOpen Tryz.prog) (hL : laidMetH Tryz.prog Rows.feedTrimsRow.laid W) : ∀ g cs, Go.Av.G g = some cs → Go.Av.Rel (Go.Av.Info.start W) W (Go.Av.gv cs) (.pointer (some ⟨g, 0, none⟩)) := by
  rw [MakeChecks.laidMetH_plain _ _ _ plainLaidFeedTrims] at hL
  have x0 : ∃ m, W.cell? ⟨0, 0, none⟩ = some (.int .i64 m) := cell_of_shapedOpen_int (P := Tryz.prog) (g := 0) (t := 3) (zero := #[.int .i64 0]) hsh (of_decide_eq_true (by kernel_rfl)) (by kernel_rfl) rfl (by kernel_rfl) (by kernel_rfl) Tryz.underlying3
  have x3 : ∃ v, W.cell? ⟨3, 0, none⟩ = some v ∧ (v = .nilIface ∨ ∃ u y, v = .iface u y) := Go.Av.laid_iface (n := "strconv.ErrSyntax") (d := Rows.laid_strconv_ErrSyntax) hL (by simp [Rows.feedTrimsRow]) (by kernel_rfl) (by kernel_rfl) Tryz.underlying53
  have x4 : ∃ v, W.cell? ⟨4, 0, none⟩ = some v ∧ (v = .nilIface ∨ ∃ u y, v = .iface u y) := Go.Av.laid_iface (n := "strconv.ErrRange") (d := Rows.laid_strconv_ErrRange) hL (by simp [Rows.feedTrimsRow]) (by kernel_rfl) (by kernel_rfl) Tryz.underlying53
  intro g cs hG
  rcases g with _ | _ | _ | _ | _ | g
  · obtain rfl := Option.some.inj hG
    obtain ⟨m, hm⟩ := x0
    exact Go.Av.rel_var hm (.anyk _ _)
  · simp [Go.Av.G] at hG
  · simp [Go.Av.G] at hG
  · obtain rfl := Option.some.inj hG
    obtain ⟨v, hv, hk⟩ := x3
    exact Go.Av.rel_var hv (Go.Av.rel_anyi hk)
  · obtain rfl := Option.some.inj hG
    obtain ⟨v, hv, hk⟩ := x4
    exact Go.Av.rel_var hv (Go.Av.rel_anyi hk)
  · simp [Go.Av.G] at hG
set_option maxRecDepth 100000 in
theorem liftedFeedTrims (os : Os) (started : os.Started) (H : Type) (enc : TypeId × Value → H) :
    ReturnsInHanded {} Tryz.checked os 6 .any (fun w args => (Rows.feedTrimsSpec.pre enc Tryz.prog Tryz.f6 Rows.feedTrimsRow.domain false w args ∧ laidMetH Tryz.prog Rows.feedTrimsRow.laid w) ∧ sizedMet enc Tryz.prog Tryz.f6 (OpenSpec.ofChange Rows.feedTrimsSpec) false w args)
      (Rows.feedTrimsSpec.post enc Tryz.prog Tryz.f6 false true false false) := by
  refine Go.Av.returns_and_shaped (C := Tryz.checked) (X := fun w _ => laidMetH Tryz.prog Rows.feedTrimsRow.laid w) (fun _ _ _ hh h => h.of_heap hh) ownFeedTrims started (by kernel_rfl) Tryz.func6
    (ChangeSpec.witness_shaped (enc := enc) (C := Tryz.checked) (os := os) (X := fun w _ => laidMetH Tryz.prog Rows.feedTrimsRow.laid w) false (World.laidAll Tryz.prog os Rows.feedTrimsRow.laid) #[.slice none 0 0] 8 (World.laidAll_os _ _ _)
      (World.shaped_of_ZipB (by kernel_rfl) (by kernel_rfl)) (by kernel_rfl) (by kernel_rfl) (by kernel_rfl)
      (by rw [MakeChecks.laidMetH_plain _ _ _ plainLaidFeedTrims]; exact laidMet_laidAll _ (by kernel_rfl) (by kernel_rfl))) ?_
  intro W base args ds gs before hval0 hW hsh hL
  have hval : ∀ (j : Nat) t v, Tryz.f6.params[j]? = some t → args[j]? = some v → Value.okWide Tryz.prog W .any base t v := hval0
  have hW' := hW
  obtain ⟨p, q, hA0, hV, rfl, hfz, hnd⟩ := hW
  have hA : DataW.TrodAll enc Tryz.prog W 0 (fun _ => true) true Tryz.f6.params.toList args.toList ds p := hA0
  rw [Tryz.params6] at hA hval
  obtain ⟨v0, vs0, d0, ds0, p0, q0, hargs, rfl, rfl, h0, r0⟩ := trodAll_cons hA
  obtain ⟨rfl, rfl, rfl⟩ := trodAll_nil r0
  obtain rfl : args = #[v0] := by cases args; simp_all
  obtain ⟨rfl, rfl⟩ := trodVars_none hV
  have k0 := h0
  have lt0 : ∀ x ∈ p0, x.block < W.heap.size := by obtain ⟨m, hm⟩ := k0; exact DataW.trod_lt m _ _ _ hm
  obtain ⟨a0, len0, cap0, rfl⟩ := okWide_slice Tryz.underlying30 (hval 0 30 v0 rfl rfl)
  obtain ⟨l0, hl0, hm0, w0⟩ : ∃ l : List UInt8, l.length = len0 ∧ len0 ≤ maxLen ∧ Go.Av.Rel (Go.Av.Info.start W) W (Go.Av.slE Go.Av.Enc.byte l none) (.slice a0 len0 cap0) := by
    obtain ⟨fuel, hf⟩ := h0
    rcases open_ints Tryz.underlying30 Tryz.underlying5 (by kernel_rfl) hf with ⟨hcs, _⟩ | ⟨x, l, c, zs, hcs, _, hl, hm, hz, _, hcell, hwz⟩
    · simp [Value.cells] at hcs
      obtain ⟨rfl, rfl, rfl⟩ := hcs
      exact Go.Av.rel_bytes (.inl ⟨rfl, rfl, rfl, rfl⟩)
    · simp [Value.cells] at hcs
      obtain ⟨rfl, rfl, rfl⟩ := hcs
      exact Go.Av.rel_bytes (.inr ⟨_, rfl, hl, hm, by simpa using hz, hcell, hwz⟩)
  clear hA0 hval0
  refine (Go.Av.law_of (oK 2000000 (l0) none true (Go.Fd.FeedTrims_t (l0))) (Go.Av.RelL.cons w0 Go.Av.RelL.nil) (globsFeedTrims hsh hL)).mono fun e W' ⟨he, bel⟩ => ?_
  subst he
  exact ⟨_, rfl, _, _, _, [], _, [], hW', trodAll_mk1 (shut_bool Tryz.underlying4 _), (trodAll_cons_mk (Below.trod laidOutFeedTrims (by kernel_rfl) (of_decide_eq_true (by kernel_rfl)) k0 bel lt0) trodAll_mk0), rfl, bel.frame _, fun h => by cases h⟩
set_option maxRecDepth 100000
theorem jfFeedTrims0 : (Rows.feedTrimsRow.wf (OpenSpec.ofChange Rows.feedTrimsSpec)) = true := by kernel_rfl
theorem jfFeedTrims1 : (laidOutB Tryz.prog) = true := by kernel_rfl
theorem jfFeedTrims2 : (mapsRowed Tryz.prog) = true := by kernel_rfl
theorem jfFeedTrims3 : (Tryz.f6.params.all (Tryz.prog.readableRec ·)) = true := by kernel_rfl
theorem jfFeedTrims4 : (namedTie Tryz.prog Rows.feedTrimsRow.named Rows.feedTrimsSpec.vars) = true := by kernel_rfl
theorem jfFeedTrims5 : ((Rows.feedTrimsRow.stops == [])) = true := by kernel_rfl
theorem jfFeedTrims6 : ((Tryz.prog.stops == [])) = true := by kernel_rfl
theorem jfFeedTrims7 : ((Rows.feedTrimsRow.knobs == [])) = true := by kernel_rfl
theorem jfFeedTrims8 : ((Tryz.prog.stopKnobs == [])) = true := by kernel_rfl
theorem jfFeedTrims9 : ((Rows.feedTrimsRow.inPlace == Tryz.prog.inPlace 6)) = true := by kernel_rfl
theorem jfFeedTrims10 : ((Rows.feedTrimsRow.unfollowed == Tryz.prog.unfollowed 6)) = true := by kernel_rfl
theorem jfFeedTrims11 : ((Rows.feedTrimsRow.recurses == Tryz.prog.recurses 6)) = true := by kernel_rfl
theorem jfFeedTrims12 : ((Rows.feedTrimsRow.named == Tryz.prog.varsNamed 6)) = true := by kernel_rfl
theorem jfFeedTrims13 : ((Rows.feedTrimsRow.maps == (Tryz.f6.params.toList ++ Rows.feedTrimsSpec.plain.varTypes Tryz.prog).any (Tryz.prog.mapsRec ·))) = true := by kernel_rfl
theorem jfFeedTrims14 : ((Rows.feedTrimsRow.ifaces == (Tryz.f6.params.toList ++ Rows.feedTrimsSpec.plain.varTypes Tryz.prog).any (Tryz.prog.ifacesRec ·))) = true := by kernel_rfl
theorem jfFeedTrims15 : ((Rows.feedTrimsRow.mapsOut == Tryz.prog.mapsAmong Tryz.f6.resultTypes.toList)) = true := by kernel_rfl
theorem jfFeedTrims16 : ((Rows.feedTrimsRow.loops == (Tryz.f6.params.toList ++ Rows.feedTrimsSpec.plain.varTypes Tryz.prog).any (Tryz.prog.loopsFrom ·))) = true := by kernel_rfl
theorem jfFeedTrims17 : ((Rows.feedTrimsRow.wideKeys == (Tryz.f6.params.toList ++ Rows.feedTrimsSpec.plain.varTypes Tryz.prog ++ Tryz.f6.resultTypes.toList).any (Tryz.prog.wideKeysFrom ·))) = true := by kernel_rfl
theorem jfFeedTrims18 : (Rows.feedTrimsSpec.vars.all (Tryz.prog.varReadable ·)) = true := by kernel_rfl
theorem jfFeedTrims19 : (Tryz.f6.resultTypes.all (fun t => Tryz.prog.readableRec t && decide (t < Tryz.prog.types.size))) = true := by kernel_rfl
theorem jfFeedTrims20 : ((Rows.feedTrimsRow.ifacesOut == Tryz.f6.resultTypes.toList.any (Tryz.prog.ifacesRec ·))) = true := by kernel_rfl
theorem jfFeedTrims21 : ((Rows.feedTrimsRow.loopsOut == Tryz.f6.resultTypes.toList.any (Tryz.prog.loopsFrom ·))) = true := by kernel_rfl
theorem jfFeedTrims22 : ((Rows.feedTrimsRow.plainKeys == Tryz.prog.plainKeys)) = true := by kernel_rfl
theorem jfFeedTrims23 : (Rows.feedTrimsRow.shortTexts.isNone) = true := by kernel_rfl
theorem jfFeedTrims24 : (Tryz.prog.stopsHeard) = true := by kernel_rfl
theorem jfFeedTrims25 : (Tryz.prog.mayEnter) = true := by kernel_rfl
theorem jfFeedTrims26 : ((Rows.feedTrimsRow.lifted == Tryz.prog.liftsFinal)) = true := by kernel_rfl
theorem jfFeedTrims27 : ((Tryz.prog.make == some Rows.feedTrimsRow.make)) = true := by kernel_rfl
theorem jfFeedTrims28 : ((Rows.feedTrimsRow.kinds == (if Rows.feedTrimsRow.domain.isEmpty then [] else Tryz.f6.params.toList.map fun t => match Tryz.prog.underlying t with | some (.int k) => some k | _ => none))) = true := by kernel_rfl
theorem jfFeedTrims29 : ((Rows.feedTrimsRow.pinned == Rows.feedTrimsRow.pinnedBy)) = true := by kernel_rfl
theorem jfFeedTrims30 : ((Rows.feedTrimsRow.veiled == (Tryz.f6.params.toList ++ Rows.feedTrimsSpec.plain.varTypes Tryz.prog ++ Tryz.f6.resultTypes.toList).any (Tryz.prog.veiledRec ·))) = true := by kernel_rfl
theorem jfFeedTrims31 : (Rows.feedTrimsRow.veiledFits Tryz.prog Tryz.f6.params.toList (Tryz.f6.params.toList ++ Rows.feedTrimsSpec.plain.varTypes Tryz.prog ++ Tryz.f6.resultTypes.toList)) = true := by kernel_rfl
theorem jfFeedTrims : joinedFacts Tryz.prog 6 Tryz.f6 Rows.feedTrimsSpec Rows.feedTrimsRow = true := by
  unfold joinedFacts
  simp only [Bool.and_eq_true]
  exact ⟨⟨⟨⟨⟨⟨⟨⟨⟨⟨⟨⟨⟨⟨⟨⟨⟨⟨⟨⟨⟨⟨⟨⟨⟨⟨⟨⟨⟨⟨⟨jfFeedTrims0, jfFeedTrims1⟩, jfFeedTrims2⟩, jfFeedTrims3⟩, jfFeedTrims4⟩, jfFeedTrims5⟩, jfFeedTrims6⟩, jfFeedTrims7⟩, jfFeedTrims8⟩, jfFeedTrims9⟩, jfFeedTrims10⟩, jfFeedTrims11⟩, jfFeedTrims12⟩, jfFeedTrims13⟩, jfFeedTrims14⟩, jfFeedTrims15⟩, jfFeedTrims16⟩, jfFeedTrims17⟩, jfFeedTrims18⟩, jfFeedTrims19⟩, jfFeedTrims20⟩, jfFeedTrims21⟩, jfFeedTrims22⟩, jfFeedTrims23⟩, jfFeedTrims24⟩, jfFeedTrims25⟩, jfFeedTrims26⟩, jfFeedTrims27⟩, jfFeedTrims28⟩, jfFeedTrims29⟩, jfFeedTrims30⟩, jfFeedTrims31⟩
theorem overFeedTrims : Rows.feedTrimsRow.holds Tryz.pinned (OpenSpec.ofChange Rows.feedTrimsSpec) :=
  OpenClaim.holds_of_wide 6 Tryz.f6 rfl rfl rfl rfl rfl rfl rfl ⟨rfl, rfl, rfl, rfl, rfl⟩ rfl rfl rfl rfl rfl (by kernel_rfl) Tryz.func6 jfFeedTrims
    (of_decide_eq_true (by kernel_rfl)) (by unfold Func.isWrapper; first | (rw [if_pos (by decide +kernel)]; kernel_rfl) | (rw [if_neg (by decide +kernel)]; exact ⟨rfl, rfl⟩))
    (fun os started H enc _ => liftedFeedTrims os started H enc)
/-- The given statement: the card. -/
theorem FeedTrims_holds : Rows.FeedTrimsCardSaid :=
  Claim7.holds_tied_plain_at .later [] [.data, .data, .data, .data, .sentinel, .sentinel, .pinned] true (true, "b1df91f58ad98c9f12fd3e5e2837632f95de86d186ef17aa69457650c485151d") true overFeedTrims (fun _ h => by cases h) (by kernel_rfl) (fun _ h => by cases h) feedTrims_row_tie rfl ⟨rfl, rfl⟩ (by kernel_rfl) rfl
    (fun f fn hf hfn => by
      obtain rfl : f = 6 := Option.some.inj ((show Tryz.prog.funcNamed Rows.feedTrimsRow.func = some 6 by kernel_rfl).symm.trans hf) |>.symm
      obtain rfl : fn = Tryz.f6 := (Option.some.inj (Tryz.func6.symm.trans hfn)).symm
      exact ⟨by kernel_rfl, fun j t ht => by
        rw [Tryz.params6] at ht
        have hm : t ∈ [30] := by have := Array.mem_of_getElem? ht; simpa using this
        have hall : ([30].all fun u => !Tryz.prog.wantsStandIn u) = true := by kernel_rfl
        exact (show Tryz.prog.wantsStandIn t = false by simpa using List.all_eq_true.1 hall t hm)⟩)
    (by kernel_rfl)
end Go.Proofs.YtkbfjepffpddfaaGreatDoor
