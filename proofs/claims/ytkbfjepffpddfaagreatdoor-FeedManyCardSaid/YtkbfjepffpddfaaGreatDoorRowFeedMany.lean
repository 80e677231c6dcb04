/-
  FeedMany: the row, out of the walk and the plain law; and its card.
-/
import Derived.Test.YtkbfjepffpddfaaGreatDoorRows
import Derived.Test.YtkbfjepffpddfaaGreatDoorCards
import Derived.Test.YtkbfjepffpddfaaGreatDoorTie
import Derived.Test.YtkbfjepffpddfaaGreatDoorZFeedMany5
import Derived.WalkKit
import Derived.ProofKit
import Derived.OpenShut
import Derived.ShutString
import Derived.ChangeOld
import Derived.Below
import Derived.LaidMore
import Derived.Lay
import Derived.SevenTiedAt
import Derived.Stop.Joined
namespace Go.Proofs.YtkbfjepffpddfaaGreatDoor
open Go.ChangeShapes Go.WideShapes Go.ChangeAt Go.RowKit
open Go.ChangeMaps (open_string shut_string)
set_option linter.unusedVariables false
theorem ownFeedMany : ownKnob Tryz.prog.godebug = none := by kernel_rfl
theorem laidOutFeedMany : laidOutB Tryz.prog = true := by kernel_rfl
theorem plainLaidFeedMany : (Rows.feedManyRow.laid.all fun x => x.2.handleName?.isNone) = true := by kernel_rfl
/-- What the variables that the walk reads hold when the call begins. -/
theorem globsFeedMany {W : World} (hsh : W.ShapedOpen Tryz.prog) (hL : laidMetH Tryz.prog Rows.feedManyRow.laid W) : ∀ g cs, Go.Av.G g = some cs → Go.Av.Rel (Go.Av.Info.start W) W (Go.Av.gv cs) (.pointer (some ⟨g, 0, none⟩)) := by
  rw [MakeChecks.laidMetH_plain _ _ _ plainLaidFeedMany] at hL
  have x0 : ∃ m, W.cell? ⟨0, 0, none⟩ = some (.int .i64 m) := cell_of_shapedOpen_int (P := Tryz.prog) (g := 0) (t := 3) (zero := #[.int .i64 0]) hsh (of_decide_eq_true (by kernel_rfl)) (by kernel_rfl) rfl (by kernel_rfl) (by kernel_rfl) Tryz.underlying3
  have x3 : ∃ v, W.cell? ⟨3, 0, none⟩ = some v ∧ (v = .nilIface ∨ ∃ u y, v = .iface u y) := Go.Av.laid_iface (n := "strconv.ErrSyntax") (d := Rows.laid_strconv_ErrSyntax) hL (by simp [Rows.feedManyRow]) (by kernel_rfl) (by kernel_rfl) Tryz.underlying53
  have x4 : ∃ v, W.cell? ⟨4, 0, none⟩ = some v ∧ (v = .nilIface ∨ ∃ u y, v = .iface u y) := Go.Av.laid_iface (n := "strconv.ErrRange") (d := Rows.laid_strconv_ErrRange) hL (by simp [Rows.feedManyRow]) (by kernel_rfl) (by kernel_rfl) Tryz.underlying53
  intro g cs hG
  rcases g with _ | _ | _ | _ | _ | g
  · obtain rfl := Option.some.inj hG
    obtain ⟨m, hm⟩ := x0
    exact Go.Av.rel_var hm (.anyk _ _)
  · simp [Go.Av.G] at hG
  · simp [Go.Av.G] at hG
  · obtain rfl := Option.some.inj hG
    obtain ⟨v, hv, hk⟩ := x3
    exact Go.Av.rel_var hv (Go.Av.rel_anyi hk)
  · obtain rfl := Option.some.inj hG
    obtain ⟨v, hv, hk⟩ := x4
    exact Go.Av.rel_var hv (Go.Av.rel_anyi hk)
  · simp [Go.Av.G] at hG
set_option maxRecDepth 100000 in
theorem liftedFeedMany (os : Os) (started : os.Started) (H : Type) (enc : TypeId × Value → H) :
    ReturnsInHanded {} Tryz.checked os 4 .any (fun w args => (Rows.feedManySpec.pre enc Tryz.prog Tryz.f4 Rows.feedManyRow.domain false w args ∧ laidMetH Tryz.prog Rows.feedManyRow.laid w) ∧ sizedMet enc Tryz.prog Tryz.f4 (OpenSpec.ofChange Rows.feedManySpec) false w args)
      (Rows.feedManySpec.post enc Tryz.prog Tryz.f4 false true false false) := by
  refine Go.Av.returns_and_shaped (C := Tryz.checked) (X := fun w _ => laidMetH Tryz.prog Rows.feedManyRow.laid w) (fun _ _ _ hh h => h.of_heap hh) ownFeedMany started (by kernel_rfl) Tryz.func4
    (ChangeSpec.witness_shaped (enc := enc) (C := Tryz.checked) (os := os) (X := fun w _ => laidMetH Tryz.prog Rows.feedManyRow.laid w) false (World.laidAll Tryz.prog os Rows.feedManyRow.laid) #[.int .i64 0] 8 (World.laidAll_os _ _ _)
      (World.shaped_of_ZipB (by kernel_rfl) (by kernel_rfl)) (by kernel_rfl) (by kernel_rfl) (by kernel_rfl)
      (by rw [MakeChecks.laidMetH_plain _ _ _ plainLaidFeedMany]; exact laidMet_laidAll _ (by kernel_rfl) (by kernel_rfl))) ?_
  intro W base args ds gs before hval0 hW hsh hL
  have hval : ∀ (j : Nat) t v, Tryz.f4.params[j]? = some t → args[j]? = some v → Value.okWide Tryz.prog W .any base t v := hval0
  have hW' := hW
  obtain ⟨p, q, hA0, hV, rfl, hfz, hnd⟩ := hW
  have hA : DataW.TrodAll enc Tryz.prog W 0 (fun _ => true) true Tryz.f4.params.toList args.toList ds p := hA0
  rw [Tryz.params4] at hA hval
  obtain ⟨v0, vs0, d0, ds0, p0, q0, hargs, rfl, rfl, h0, r0⟩ := trodAll_cons hA
  obtain ⟨rfl, rfl, rfl⟩ := trodAll_nil r0
  obtain rfl : args = #[v0] := by cases args; simp_all
  obtain ⟨rfl, rfl⟩ := trodVars_none hV
  have k0 := h0
  have lt0 : ∀ x ∈ p0, x.block < W.heap.size := by obtain ⟨m, hm⟩ := k0; exact DataW.trod_lt m _ _ _ hm
  obtain ⟨a0, rfl, rfl, rfl, w0⟩ := open_int Tryz.underlying3 (hval 0 3 v0 rfl rfl) h0
  clear hA0 hval0
  refine (Go.Av.law_of (pH 2000000 (a0) true (Go.Fd.FeedMany_t (a0))) (Go.Av.RelL.cons (.v _) Go.Av.RelL.nil) (globsFeedMany hsh hL)).mono fun e W' ⟨he, bel⟩ => ?_
  subst he
  exact ⟨_, rfl, _, _, _, [], _, [], hW', trodAll_mk1 (shut_bool Tryz.underlying4 _), (trodAll_cons_mk (Below.trod laidOutFeedMany (by kernel_rfl) (of_decide_eq_true (by kernel_rfl)) k0 bel lt0) trodAll_mk0), rfl, bel.frame _, fun h => by cases h⟩
set_option maxRecDepth 100000
theorem jfFeedMany0 : (Rows.feedManyRow.wf (OpenSpec.ofChange Rows.feedManySpec)) = true := by kernel_rfl
theorem jfFeedMany1 : (laidOutB Tryz.prog) = true := by kernel_rfl
theorem jfFeedMany2 : (mapsRowed Tryz.prog) = true := by kernel_rfl
theorem jfFeedMany3 : (Tryz.f4.params.all (Tryz.prog.readableRec ·)) = true := by kernel_rfl
theorem jfFeedMany4 : (namedTie Tryz.prog Rows.feedManyRow.named Rows.feedManySpec.vars) = true := by kernel_rfl
theorem jfFeedMany5 : ((Rows.feedManyRow.stops == [])) = true := by kernel_rfl
theorem jfFeedMany6 : ((Tryz.prog.stops == [])) = true := by kernel_rfl
theorem jfFeedMany7 : ((Rows.feedManyRow.knobs == [])) = true := by kernel_rfl
theorem jfFeedMany8 : ((Tryz.prog.stopKnobs == [])) = true := by kernel_rfl
theorem jfFeedMany9 : ((Rows.feedManyRow.inPlace == Tryz.prog.inPlace 4)) = true := by kernel_rfl
theorem jfFeedMany10 : ((Rows.feedManyRow.unfollowed == Tryz.prog.unfollowed 4)) = true := by kernel_rfl
theorem jfFeedMany11 : ((Rows.feedManyRow.recurses == Tryz.prog.recurses 4)) = true := by kernel_rfl
theorem jfFeedMany12 : ((Rows.feedManyRow.named == Tryz.prog.varsNamed 4)) = true := by kernel_rfl
theorem jfFeedMany13 : ((Rows.feedManyRow.maps == (Tryz.f4.params.toList ++ Rows.feedManySpec.plain.varTypes Tryz.prog).any (Tryz.prog.mapsRec ·))) = true := by kernel_rfl
theorem jfFeedMany14 : ((Rows.feedManyRow.ifaces == (Tryz.f4.params.toList ++ Rows.feedManySpec.plain.varTypes Tryz.prog).any (Tryz.prog.ifacesRec ·))) = true := by kernel_rfl
theorem jfFeedMany15 : ((Rows.feedManyRow.mapsOut == Tryz.prog.mapsAmong Tryz.f4.resultTypes.toList)) = true := by kernel_rfl
theorem jfFeedMany16 : ((Rows.feedManyRow.loops == (Tryz.f4.params.toList ++ Rows.feedManySpec.plain.varTypes Tryz.prog).any (Tryz.prog.loopsFrom ·))) = true := by kernel_rfl
theorem jfFeedMany17 : ((Rows.feedManyRow.wideKeys == (Tryz.f4.params.toList ++ Rows.feedManySpec.plain.varTypes Tryz.prog ++ Tryz.f4.resultTypes.toList).any (Tryz.prog.wideKeysFrom ·))) = true := by kernel_rfl
theorem jfFeedMany18 : (Rows.feedManySpec.vars.all (Tryz.prog.varReadable ·)) = true := by kernel_rfl
theorem jfFeedMany19 : (Tryz.f4.resultTypes.all (fun t => Tryz.prog.readableRec t && decide (t < Tryz.prog.types.size))) = true := by kernel_rfl
theorem jfFeedMany20 : ((Rows.feedManyRow.ifacesOut == Tryz.f4.resultTypes.toList.any (Tryz.prog.ifacesRec ·))) = true := by kernel_rfl
theorem jfFeedMany21 : ((Rows.feedManyRow.loopsOut == Tryz.f4.resultTypes.toList.any (Tryz.prog.loopsFrom ·))) = true := by kernel_rfl
theorem jfFeedMany22 : ((Rows.feedManyRow.plainKeys == Tryz.prog.plainKeys)) = true := by kernel_rfl
theorem jfFeedMany23 : (Rows.feedManyRow.shortTexts.isNone) = true := by kernel_rfl
theorem jfFeedMany24 : (Tryz.prog.stopsHeard) = true := by kernel_rfl
theorem jfFeedMany25 : (Tryz.prog.mayEnter) = true := by kernel_rfl
theorem jfFeedMany26 : ((Rows.feedManyRow.lifted == Tryz.prog.liftsFinal)) = true := by kernel_rfl
theorem jfFeedMany27 : ((Tryz.prog.make == some Rows.feedManyRow.make)) = true := by kernel_rfl
theorem jfFeedMany28 : ((Rows.feedManyRow.kinds == (if Rows.feedManyRow.domain.isEmpty then [] else Tryz.f4.params.toList.map fun t => match Tryz.prog.underlying t with | some (.int k) => some k | _ => none))) = true := by kernel_rfl
theorem jfFeedMany29 : ((Rows.feedManyRow.pinned == Rows.feedManyRow.pinnedBy)) = true := by kernel_rfl
theorem jfFeedMany30 : ((Rows.feedManyRow.veiled == (Tryz.f4.params.toList ++ Rows.feedManySpec.plain.varTypes Tryz.prog ++ Tryz.f4.resultTypes.toList).any (Tryz.prog.veiledRec ·))) = true := by kernel_rfl
theorem jfFeedMany31 : (Rows.feedManyRow.veiledFits Tryz.prog Tryz.f4.params.toList (Tryz.f4.params.toList ++ Rows.feedManySpec.plain.varTypes Tryz.prog ++ Tryz.f4.resultTypes.toList)) = true := by kernel_rfl
theorem jfFeedMany : joinedFacts Tryz.prog 4 Tryz.f4 Rows.feedManySpec Rows.feedManyRow = true := by
  unfold joinedFacts
  simp only [Bool.and_eq_true]
  exact ⟨⟨⟨⟨⟨⟨⟨⟨⟨⟨⟨⟨⟨⟨⟨⟨⟨⟨⟨⟨⟨⟨⟨⟨⟨⟨⟨⟨⟨⟨⟨jfFeedMany0, jfFeedMany1⟩, jfFeedMany2⟩, jfFeedMany3⟩, jfFeedMany4⟩, jfFeedMany5⟩, jfFeedMany6⟩, jfFeedMany7⟩, jfFeedMany8⟩, jfFeedMany9⟩, jfFeedMany10⟩, jfFeedMany11⟩, jfFeedMany12⟩, jfFeedMany13⟩, jfFeedMany14⟩, jfFeedMany15⟩, jfFeedMany16⟩, jfFeedMany17⟩, jfFeedMany18⟩, jfFeedMany19⟩, jfFeedMany20⟩, jfFeedMany21⟩, jfFeedMany22⟩, jfFeedMany23⟩, jfFeedMany24⟩, jfFeedMany25⟩, jfFeedMany26⟩, jfFeedMany27⟩, jfFeedMany28⟩, jfFeedMany29⟩, jfFeedMany30⟩, jfFeedMany31⟩
theorem overFeedMany : Rows.feedManyRow.holds Tryz.pinned (OpenSpec.ofChange Rows.feedManySpec) :=
  OpenClaim.holds_of_wide 4 Tryz.f4 rfl rfl rfl rfl rfl rfl rfl ⟨rfl, rfl, rfl, rfl, rfl⟩ rfl rfl rfl rfl rfl (by kernel_rfl) Tryz.func4 jfFeedMany
    (of_decide_eq_true (by kernel_rfl)) (by unfold Func.isWrapper; first | (rw [if_pos (by decide +kernel)]; kernel_rfl) | (rw [if_neg (by decide +kernel)]; exact ⟨rfl, rfl⟩))
    (fun os started H enc _ => liftedFeedMany os started H enc)
/-- The given statement: the card. -/
theorem FeedMany_holds : Rows.FeedManyCardSaid :=
  Claim7.holds_tied_plain_at .later [] [.data, .data, .data, .data, .sentinel, .sentinel, .pinned] true (true, "b1df91f58ad98c9f12fd3e5e2837632f95de86d186ef17aa69457650c485151d") true overFeedMany (fun _ h => by cases h) (by kernel_rfl) (fun _ h => by cases h) feedMany_row_tie rfl ⟨rfl, rfl⟩ (by kernel_rfl) rfl
    (fun f fn hf hfn => by
      obtain rfl : f = 4 := Option.some.inj ((show Tryz.prog.funcNamed Rows.feedManyRow.func = some 4 by kernel_rfl).symm.trans hf) |>.symm
      obtain rfl : fn = Tryz.f4 := (Option.some.inj (Tryz.func4.symm.trans hfn)).symm
      exact ⟨by kernel_rfl, fun j t ht => by
        rw [Tryz.params4] at ht
        have hm : t ∈ [3] := by have := Array.mem_of_getElem? ht; simpa using this
        have hall : ([3].all fun u => !Tryz.prog.wantsStandIn u) = true := by kernel_rfl
        exact (show Tryz.prog.wantsStandIn t = false by simpa using List.all_eq_true.1 hall t hm)⟩)
    (by kernel_rfl)
end Go.Proofs.YtkbfjepffpddfaaGreatDoor
