/-
  FeedOthers: the row, out of the walk and the plain law; and its card.
-/
import Derived.Test.YtkbfjepffpddfaaGreatDoorRows
import Derived.Test.YtkbfjepffpddfaaGreatDoorCards
import Derived.Test.YtkbfjepffpddfaaGreatDoorTie
import Derived.Test.YtkbfjepffpddfaaGreatDoorZFeedOthers5
import Derived.WalkKit
import Derived.ProofKit
import Derived.OpenShut
import Derived.ShutString
import Derived.ChangeOld
import Derived.Below
import Derived.LaidMore
import Derived.Lay
import Derived.SevenTiedAt
import Derived.Stop.Joined
namespace Go.Proofs.YtkbfjepffpddfaaGreatDoor
open Go.ChangeShapes Go.WideShapes Go.ChangeAt Go.RowKit
open Go.ChangeMaps (open_string shut_string)
set_option linter.unusedVariables false
theorem ownFeedOthers : ownKnob Tryz.prog.godebug = none := by kernel_rfl
theorem laidOutFeedOthers : laidOutB Tryz.prog = true := by kernel_rfl
theorem plainLaidFeedOthers : (Rows.feedOthersRow.laid.all fun x => x.2.handleName?.isNone) = true := by kernel_rfl
/-- What the variables that the walk reads hold when the call begins. -/
theorem globsFeedOthers {W : World} (hsh : W.ShapedOpen Tryz.prog) (hL : laidMetH Tryz.prog Rows.feedOthersRow.laid W) : ∀ g cs, Go.Av.G g = some cs → Go.Av.Rel (Go.Av.Info.start W) W (Go.Av.gv cs) (.pointer (some ⟨g, 0, none⟩)) := by
  rw [MakeChecks.laidMetH_plain _ _ _ plainLaidFeedOthers] at hL
  have x0 : ∃ m, W.cell? ⟨0, 0, none⟩ = some (.int .i64 m) := cell_of_shapedOpen_int (P := Tryz.prog) (g := 0) (t := 3) (zero := #[.int .i64 0]) hsh (of_decide_eq_true (by kernel_rfl)) (by kernel_rfl) rfl (by kernel_rfl) (by kernel_rfl) Tryz.underlying3
  have x3 : ∃ v, W.cell? ⟨3, 0, none⟩ = some v ∧ (v = .nilIface ∨ ∃ u y, v = .iface u y) := Go.Av.laid_iface (n := "strconv.ErrSyntax") (d := Rows.laid_strconv_ErrSyntax) hL (by simp [Rows.feedOthersRow]) (by kernel_rfl) (by kernel_rfl) Tryz.underlying53
  have x4 : ∃ v, W.cell? ⟨4, 0, none⟩ = some v ∧ (v = .nilIface ∨ ∃ u y, v = .iface u y) := Go.Av.laid_iface (n := "strconv.ErrRange") (d := Rows.laid_strconv_ErrRange) hL (by simp [Rows.feedOthersRow]) (by kernel_rfl) (by kernel_rfl) Tryz.underlying53
  intro g cs hG
  rcases g with _ | _ | _ | _ | _ | g
  · obtain rfl := Option.some.inj hG
    obtain ⟨m, hm⟩ := x0
    exact Go.Av.rel_var hm (.anyk _ _)
  · simp [Go.Av.G] at hG
  · simp [Go.Av.G] at hG
  · obtain rfl := Option.some.inj hG
    obtain ⟨v, hv, hk⟩ := x3
    exact Go.Av.rel_var hv (Go.Av.rel_anyi hk)
  · obtain rfl := Option.some.inj hG
    obtain ⟨v, hv, hk⟩ := x4
    exact Go.Av.rel_var hv (Go.Av.rel_anyi hk)
  · simp [Go.Av.G] at hG
set_option maxRecDepth 100000 in
theorem liftedFeedOthers (os : Os) (started : os.Started) (H : Type) (enc : TypeId × Value → H) :
    ReturnsInHanded {} Tryz.checked os 5 .any (fun w args => (Rows.feedOthersSpec.pre enc Tryz.prog Tryz.f5 Rows.feedOthersRow.domain false w args ∧ laidMetH Tryz.prog Rows.feedOthersRow.laid w) ∧ sizedMet enc Tryz.prog Tryz.f5 (OpenSpec.ofChange Rows.feedOthersSpec) false w args)
      (Rows.feedOthersSpec.post enc Tryz.prog Tryz.f5 false true false false) := by
  refine Go.Av.returns_and_shaped (C := Tryz.checked) (X := fun w _ => laidMetH Tryz.prog Rows.feedOthersRow.laid w) (fun _ _ _ hh h => h.of_heap hh) ownFeedOthers started (by kernel_rfl) Tryz.func5
    (ChangeSpec.witness_shaped (enc := enc) (C := Tryz.checked) (os := os) (X := fun w _ => laidMetH Tryz.prog Rows.feedOthersRow.laid w) false (World.laidAll Tryz.prog os Rows.feedOthersRow.laid) #[.string ByteArray.empty, .string ByteArray.empty, .string ByteArray.empty] 8 (World.laidAll_os _ _ _)
      (World.shaped_of_ZipB (by kernel_rfl) (by kernel_rfl)) (by kernel_rfl) (by kernel_rfl) (by kernel_rfl)
      (by rw [MakeChecks.laidMetH_plain _ _ _ plainLaidFeedOthers]; exact laidMet_laidAll _ (by kernel_rfl) (by kernel_rfl))) ?_
  intro W base args ds gs before hval0 hW hsh hL
  have hval : ∀ (j : Nat) t v, Tryz.f5.params[j]? = some t → args[j]? = some v → Value.okWide Tryz.prog W .any base t v := hval0
  have hW' := hW
  obtain ⟨p, q, hA0, hV, rfl, hfz, hnd⟩ := hW
  have hA : DataW.TrodAll enc Tryz.prog W 0 (fun _ => true) true Tryz.f5.params.toList args.toList ds p := hA0
  rw [Tryz.params5] at hA hval
  obtain ⟨v0, vs0, d0, ds0, p0, q0, hargs, rfl, rfl, h0, r0⟩ := trodAll_cons hA
  obtain ⟨v1, vs1, d1, ds1, p1, q1, rfl, rfl, rfl, h1, r1⟩ := trodAll_cons r0
  obtain ⟨v2, vs2, d2, ds2, p2, q2, rfl, rfl, rfl, h2, r2⟩ := trodAll_cons r1
  obtain ⟨rfl, rfl, rfl⟩ := trodAll_nil r2
  obtain rfl : args = #[v0, v1, v2] := by cases args; simp_all
  obtain ⟨rfl, rfl⟩ := trodVars_none hV
  have k0 := h0
  have lt0 : ∀ x ∈ p0, x.block < W.heap.size := by obtain ⟨m, hm⟩ := k0; exact DataW.trod_lt m _ _ _ hm
  have k1 := h1
  have lt1 : ∀ x ∈ p1, x.block < W.heap.size := by obtain ⟨m, hm⟩ := k1; exact DataW.trod_lt m _ _ _ hm
  have k2 := h2
  have lt2 : ∀ x ∈ p2, x.block < W.heap.size := by obtain ⟨m, hm⟩ := k2; exact DataW.trod_lt m _ _ _ hm
  obtain ⟨a0, rfl, rfl, rfl, w0⟩ := open_string Tryz.underlying9 (hval 0 9 v0 rfl rfl) h0
  obtain ⟨a1, rfl, rfl, rfl, w1⟩ := open_string Tryz.underlying9 (hval 1 9 v1 rfl rfl) h1
  obtain ⟨a2, rfl, rfl, rfl, w2⟩ := open_string Tryz.underlying9 (hval 2 9 v2 rfl rfl) h2
  clear hA0 hval0
  refine (Go.Av.law_of (oM (2000000 + ((a0.data.toList).length + (a1.data.toList).length + (a2.data.toList).length)) (a0.data.toList) (a1.data.toList) (a2.data.toList) true (Go.Fd.FeedOthers_t (2000000 + ((a0.data.toList).length + (a1.data.toList).length + (a2.data.toList).length)) (by omega) (a0.data.toList) (a1.data.toList) (a2.data.toList) (Go.Fd.mlen w0) (Go.Fd.mlen w1) (Go.Fd.mlen w2) (by omega) (by omega) (by omega))) (Go.Av.RelL.cons (Go.Av.rel_string _ _ a0) (Go.Av.RelL.cons (Go.Av.rel_string _ _ a1) (Go.Av.RelL.cons (Go.Av.rel_string _ _ a2) Go.Av.RelL.nil))) (globsFeedOthers hsh hL)).mono fun e W' ⟨he, bel⟩ => ?_
  subst he
  exact ⟨_, rfl, _, _, _, [], _, [], hW', trodAll_mk1 (shut_bool Tryz.underlying4 _), (trodAll_cons_mk (Below.trod laidOutFeedOthers (by kernel_rfl) (of_decide_eq_true (by kernel_rfl)) k0 bel lt0) (trodAll_cons_mk (Below.trod laidOutFeedOthers (by kernel_rfl) (of_decide_eq_true (by kernel_rfl)) k1 bel lt1) (trodAll_cons_mk (Below.trod laidOutFeedOthers (by kernel_rfl) (of_decide_eq_true (by kernel_rfl)) k2 bel lt2) trodAll_mk0))), rfl, bel.frame _, fun h => by cases h⟩
set_option maxRecDepth 100000
theorem jfFeedOthers0 : (Rows.feedOthersRow.wf (OpenSpec.ofChange Rows.feedOthersSpec)) = true := by kernel_rfl
theorem jfFeedOthers1 : (laidOutB Tryz.prog) = true := by kernel_rfl
theorem jfFeedOthers2 : (mapsRowed Tryz.prog) = true := by kernel_rfl
theorem jfFeedOthers3 : (Tryz.f5.params.all (Tryz.prog.readableRec ·)) = true := by kernel_rfl
theorem jfFeedOthers4 : (namedTie Tryz.prog Rows.feedOthersRow.named Rows.feedOthersSpec.vars) = true := by kernel_rfl
theorem jfFeedOthers5 : ((Rows.feedOthersRow.stops == [])) = true := by kernel_rfl
theorem jfFeedOthers6 : ((Tryz.prog.stops == [])) = true := by kernel_rfl
theorem jfFeedOthers7 : ((Rows.feedOthersRow.knobs == [])) = true := by kernel_rfl
theorem jfFeedOthers8 : ((Tryz.prog.stopKnobs == [])) = true := by kernel_rfl
theorem jfFeedOthers9 : ((Rows.feedOthersRow.inPlace == Tryz.prog.inPlace 5)) = true := by kernel_rfl
theorem jfFeedOthers10 : ((Rows.feedOthersRow.unfollowed == Tryz.prog.unfollowed 5)) = true := by kernel_rfl
theorem jfFeedOthers11 : ((Rows.feedOthersRow.recurses == Tryz.prog.recurses 5)) = true := by kernel_rfl
theorem jfFeedOthers12 : ((Rows.feedOthersRow.named == Tryz.prog.varsNamed 5)) = true := by kernel_rfl
theorem jfFeedOthers13 : ((Rows.feedOthersRow.maps == (Tryz.f5.params.toList ++ Rows.feedOthersSpec.plain.varTypes Tryz.prog).any (Tryz.prog.mapsRec ·))) = true := by kernel_rfl
theorem jfFeedOthers14 : ((Rows.feedOthersRow.ifaces == (Tryz.f5.params.toList ++ Rows.feedOthersSpec.plain.varTypes Tryz.prog).any (Tryz.prog.ifacesRec ·))) = true := by kernel_rfl
theorem jfFeedOthers15 : ((Rows.feedOthersRow.mapsOut == Tryz.prog.mapsAmong Tryz.f5.resultTypes.toList)) = true := by kernel_rfl
theorem jfFeedOthers16 : ((Rows.feedOthersRow.loops == (Tryz.f5.params.toList ++ Rows.feedOthersSpec.plain.varTypes Tryz.prog).any (Tryz.prog.loopsFrom ·))) = true := by kernel_rfl
theorem jfFeedOthers17 : ((Rows.feedOthersRow.wideKeys == (Tryz.f5.params.toList ++ Rows.feedOthersSpec.plain.varTypes Tryz.prog ++ Tryz.f5.resultTypes.toList).any (Tryz.prog.wideKeysFrom ·))) = true := by kernel_rfl
theorem jfFeedOthers18 : (Rows.feedOthersSpec.vars.all (Tryz.prog.varReadable ·)) = true := by kernel_rfl
theorem jfFeedOthers19 : (Tryz.f5.resultTypes.all (fun t => Tryz.prog.readableRec t && decide (t < Tryz.prog.types.size))) = true := by kernel_rfl
theorem jfFeedOthers20 : ((Rows.feedOthersRow.ifacesOut == Tryz.f5.resultTypes.toList.any (Tryz.prog.ifacesRec ·))) = true := by kernel_rfl
theorem jfFeedOthers21 : ((Rows.feedOthersRow.loopsOut == Tryz.f5.resultTypes.toList.any (Tryz.prog.loopsFrom ·))) = true := by kernel_rfl
theorem jfFeedOthers22 : ((Rows.feedOthersRow.plainKeys == Tryz.prog.plainKeys)) = true := by kernel_rfl
theorem jfFeedOthers23 : (Rows.feedOthersRow.shortTexts.isNone) = true := by kernel_rfl
theorem jfFeedOthers24 : (Tryz.prog.stopsHeard) = true := by kernel_rfl
theorem jfFeedOthers25 : (Tryz.prog.mayEnter) = true := by kernel_rfl
theorem jfFeedOthers26 : ((Rows.feedOthersRow.lifted == Tryz.prog.liftsFinal)) = true := by kernel_rfl
theorem jfFeedOthers27 : ((Tryz.prog.make == some Rows.feedOthersRow.make)) = true := by kernel_rfl
theorem jfFeedOthers28 : ((Rows.feedOthersRow.kinds == (if Rows.feedOthersRow.domain.isEmpty then [] else Tryz.f5.params.toList.map fun t => match Tryz.prog.underlying t with | some (.int k) => some k | _ => none))) = true := by kernel_rfl
theorem jfFeedOthers29 : ((Rows.feedOthersRow.pinned == Rows.feedOthersRow.pinnedBy)) = true := by kernel_rfl
theorem jfFeedOthers30 : ((Rows.feedOthersRow.veiled == (Tryz.f5.params.toList ++ Rows.feedOthersSpec.plain.varTypes Tryz.prog ++ Tryz.f5.resultTypes.toList).any (Tryz.prog.veiledRec ·))) = true := by kernel_rfl
theorem jfFeedOthers31 : (Rows.feedOthersRow.veiledFits Tryz.prog Tryz.f5.params.toList (Tryz.f5.params.toList ++ Rows.feedOthersSpec.plain.varTypes Tryz.prog ++ Tryz.f5.resultTypes.toList)) = true := by kernel_rfl
theorem jfFeedOthers : joinedFacts Tryz.prog 5 Tryz.f5 Rows.feedOthersSpec Rows.feedOthersRow = true := by
  unfold joinedFacts
  simp only [Bool.and_eq_true]
  exact ⟨⟨⟨⟨⟨⟨⟨⟨⟨⟨⟨⟨⟨⟨⟨⟨⟨⟨⟨⟨⟨⟨⟨⟨⟨⟨⟨⟨⟨⟨⟨jfFeedOthers0, jfFeedOthers1⟩, jfFeedOthers2⟩, jfFeedOthers3⟩, jfFeedOthers4⟩, jfFeedOthers5⟩, jfFeedOthers6⟩, jfFeedOthers7⟩, jfFeedOthers8⟩, jfFeedOthers9⟩, jfFeedOthers10⟩, jfFeedOthers11⟩, jfFeedOthers12⟩, jfFeedOthers13⟩, jfFeedOthers14⟩, jfFeedOthers15⟩, jfFeedOthers16⟩, jfFeedOthers17⟩, jfFeedOthers18⟩, jfFeedOthers19⟩, jfFeedOthers20⟩, jfFeedOthers21⟩, jfFeedOthers22⟩, jfFeedOthers23⟩, jfFeedOthers24⟩, jfFeedOthers25⟩, jfFeedOthers26⟩, jfFeedOthers27⟩, jfFeedOthers28⟩, jfFeedOthers29⟩, jfFeedOthers30⟩, jfFeedOthers31⟩
theorem overFeedOthers : Rows.feedOthersRow.holds Tryz.pinned (OpenSpec.ofChange Rows.feedOthersSpec) :=
  OpenClaim.holds_of_wide 5 Tryz.f5 rfl rfl rfl rfl rfl rfl rfl ⟨rfl, rfl, rfl, rfl, rfl⟩ rfl rfl rfl rfl rfl (by kernel_rfl) Tryz.func5 jfFeedOthers
    (of_decide_eq_true (by kernel_rfl)) (by unfold Func.isWrapper; first | (rw [if_pos (by decide +kernel)]; kernel_rfl) | (rw [if_neg (by decide +kernel)]; exact ⟨rfl, rfl⟩))
    (fun os started H enc _ => liftedFeedOthers os started H enc)
/-- The given statement: the card. -/
theorem FeedOthers_holds : Rows.FeedOthersCardSaid :=
  Claim7.holds_tied_plain_at .later [] [.data, .data, .data, .data, .sentinel, .sentinel, .pinned] true (true, "b1df91f58ad98c9f12fd3e5e2837632f95de86d186ef17aa69457650c485151d") true overFeedOthers (fun _ h => by cases h) (by kernel_rfl) (fun _ h => by cases h) feedOthers_row_tie rfl ⟨rfl, rfl⟩ (by kernel_rfl) rfl
    (fun f fn hf hfn => by
      obtain rfl : f = 5 := Option.some.inj ((show Tryz.prog.funcNamed Rows.feedOthersRow.func = some 5 by kernel_rfl).symm.trans hf) |>.symm
      obtain rfl : fn = Tryz.f5 := (Option.some.inj (Tryz.func5.symm.trans hfn)).symm
      exact ⟨by kernel_rfl, fun j t ht => by
        rw [Tryz.params5] at ht
        have hm : t ∈ [9] := by have := Array.mem_of_getElem? ht; simpa using this
        have hall : ([9].all fun u => !Tryz.prog.wantsStandIn u) = true := by kernel_rfl
        exact (show Tryz.prog.wantsStandIn t = false by simpa using List.all_eq_true.1 hall t hm)⟩)
    (by kernel_rfl)
end Go.Proofs.YtkbfjepffpddfaaGreatDoor
