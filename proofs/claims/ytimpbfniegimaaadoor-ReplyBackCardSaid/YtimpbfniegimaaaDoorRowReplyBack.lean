/-
  ReplyBack: the row, out of the walk and the plain law; and its card.
-/
import Derived.Test.YtimpbfniegimaaaDoorRows
import Derived.Test.YtimpbfniegimaaaDoorCards
import Derived.Test.YtimpbfniegimaaaDoorTie
import Derived.Test.YtimpbfniegimaaaDoorZReplyBack3
import Derived.Lib.LaidTab
import Derived.Stop.LaidErr
import Derived.WalkKit
import Derived.ProofKit
import Derived.OpenShut
import Derived.ShutString
import Derived.ChangeOld
import Derived.Below
import Derived.LaidMore
import Derived.Lay
import Derived.SevenTiedAt
import Derived.Stop.Joined
namespace Go.Proofs.YtimpbfniegimaaaDoor
open Go.ChangeShapes Go.WideShapes Go.ChangeAt Go.RowKit
open Go.ChangeMaps (open_string shut_string)
set_option linter.unusedVariables false
theorem ownReplyBack : ownKnob Tryd.prog.godebug = none := by kernel_rfl
theorem laidOutReplyBack : laidOutB Tryd.prog = true := by kernel_rfl
theorem plainLaidReplyBack : (Rows.replyBackRow.laid.all fun x => x.2.handleName?.isNone) = true := by kernel_rfl
/-- What the variables that the walk reads hold when the call begins. -/
theorem globsReplyBack {W : World} (hsh : W.ShapedOpen Tryd.prog) (hL : laidMetH Tryd.prog Rows.replyBackRow.laid W) : ∀ g cs, Go.Av.G g = some cs → Go.Av.Rel (Go.Av.Info.start W) W (Go.Av.gv cs) (.pointer (some ⟨g, 0, none⟩)) := by
  rw [MakeChecks.laidMetH_plain _ _ _ plainLaidReplyBack] at hL
  have x0 : ∃ m, W.cell? ⟨0, 0, none⟩ = some (.int .i64 m) := cell_of_shapedOpen_int (P := Tryd.prog) (g := 0) (t := 3) (zero := #[.int .i64 0]) hsh (of_decide_eq_true (by kernel_rfl)) (by kernel_rfl) rfl (by kernel_rfl) (by kernel_rfl) Tryd.underlying3
  have e1 : (Rows.laid_internal_strconv_uint64pow10 : DataW Unit) = Go.Lib.tabData .u64 Go.Lib.pow10Tab := by kernel_rfl
  have y1 := (laidMet.tail (laidMet.tail hL))
  have z1 : ∃ r, laidMet Tryd.prog (("internal/strconv.uint64pow10", Go.Lib.tabData .u64 Go.Lib.pow10Tab) :: r) W := by
    rw [← e1]
    exact ⟨_, y1⟩
  have x1 : Go.Lib.TabIs Tryd.prog W "internal/strconv.uint64pow10" .u64 Go.Lib.pow10Tab := by
    obtain ⟨r, h⟩ := z1
    exact Go.Lib.tabIs_of_head (g := 1) (t := 115) (e := 97) (n := 20) (by kernel_rfl) (by kernel_rfl) Tryd.underlying115 Tryd.underlying97 (by kernel_rfl) (by kernel_rfl) h
  have x2 : ∃ v, W.cell? ⟨2, 0, none⟩ = some v ∧ (v = .nilIface ∨ ∃ u y, v = .iface u y) := Go.Av.laid_iface (n := "strconv.ErrSyntax") (d := Rows.laid_strconv_ErrSyntax) hL (by simp [Rows.replyBackRow]) (by kernel_rfl) (by kernel_rfl) Tryd.underlying81
  have x3 : ∃ v, W.cell? ⟨3, 0, none⟩ = some v ∧ (v = .nilIface ∨ ∃ u y, v = .iface u y) := Go.Av.laid_iface (n := "strconv.ErrRange") (d := Rows.laid_strconv_ErrRange) hL (by simp [Rows.replyBackRow]) (by kernel_rfl) (by kernel_rfl) Tryd.underlying81
  intro g cs hG
  rcases g with _ | _ | _ | _ | g
  · obtain rfl := Option.some.inj hG
    obtain ⟨m, hm⟩ := x0
    exact Go.Av.rel_var hm (.anyk _ _)
  · obtain rfl := Option.some.inj hG
    have h := Go.Av.rel_tab (g := 1) (by kernel_rfl) x1
    simpa [Go.Lib.pow10Tab, Function.comp_def] using h
  · obtain rfl := Option.some.inj hG
    obtain ⟨v, hv, hk⟩ := x2
    exact Go.Av.rel_var hv (Go.Av.rel_anyi hk)
  · obtain rfl := Option.some.inj hG
    obtain ⟨v, hv, hk⟩ := x3
    exact Go.Av.rel_var hv (Go.Av.rel_anyi hk)
  · simp [Go.Av.G] at hG
set_option maxRecDepth 100000 in
theorem liftedReplyBack (os : Os) (started : os.Started) (H : Type) (enc : TypeId × Value → H) :
    ReturnsInHanded {} Tryd.checked os 6 .any (fun w args => (Rows.replyBackSpec.pre enc Tryd.prog Tryd.f6 Rows.replyBackRow.domain false w args ∧ laidMetH Tryd.prog Rows.replyBackRow.laid w) ∧ sizedMet enc Tryd.prog Tryd.f6 (OpenSpec.ofChange Rows.replyBackSpec) false w args)
      (Rows.replyBackSpec.post enc Tryd.prog Tryd.f6 false true false false) := by
  refine Go.Av.returns_and_shaped (C := Tryd.checked) (X := fun w _ => laidMetH Tryd.prog Rows.replyBackRow.laid w) (fun _ _ _ hh h => h.of_heap hh) ownReplyBack started (by kernel_rfl) Tryd.func6
    (ChangeSpec.witness_shaped (enc := enc) (C := Tryd.checked) (os := os) (X := fun w _ => laidMetH Tryd.prog Rows.replyBackRow.laid w) false (World.laidAll Tryd.prog os Rows.replyBackRow.laid) #[.slice none 0 0] 8 (World.laidAll_os _ _ _)
      (World.shaped_of_ZipB (by kernel_rfl) (by kernel_rfl)) (by kernel_rfl) (by kernel_rfl) (by kernel_rfl)
      (by rw [MakeChecks.laidMetH_plain _ _ _ plainLaidReplyBack]; exact laidMet_laidAll _ (by kernel_rfl) (by kernel_rfl))) ?_
  intro W base args ds gs before hval0 hW hsh hL
  have hval : ∀ (j : Nat) t v, Tryd.f6.params[j]? = some t → args[j]? = some v → Value.okWide Tryd.prog W .any base t v := hval0
  have hW' := hW
  obtain ⟨p, q, hA0, hV, rfl, hfz, hnd⟩ := hW
  have hA : DataW.TrodAll enc Tryd.prog W 0 (fun _ => true) true Tryd.f6.params.toList args.toList ds p := hA0
  rw [Tryd.params6] at hA hval
  obtain ⟨v0, vs0, d0, ds0, p0, q0, hargs, rfl, rfl, h0, r0⟩ := trodAll_cons hA
  obtain ⟨rfl, rfl, rfl⟩ := trodAll_nil r0
  obtain rfl : args = #[v0] := by cases args; simp_all
  obtain ⟨rfl, rfl⟩ := trodVars_none hV
  have k0 := h0
  have lt0 : ∀ x ∈ p0, x.block < W.heap.size := by obtain ⟨m, hm⟩ := k0; exact DataW.trod_lt m _ _ _ hm
  obtain ⟨a0, len0, cap0, rfl⟩ := okWide_slice Tryd.underlying27 (hval 0 27 v0 rfl rfl)
  obtain ⟨l0, _, w0⟩ := Go.Av.one_of (P := Tryd.prog) (w := W) rfl h0 (Go.Av.opens_slice (Go.Av.Enc.prod (Go.Av.Enc.int) (Go.Av.Enc.prod (Go.Av.Enc.sl (Go.Av.Enc.str)) (Go.Av.Enc.prod (Go.Av.Enc.int) (Go.Av.Enc.prod (Go.Av.Enc.int) (Go.Av.Enc.int))))) (fun (x : (Int × List (List UInt8) × (Int × Int × Int × Unit) × Unit)) => (x.1, x.2.1, (x.2.2.1.1, x.2.2.1.2.1, x.2.2.1.2.2.1))) Tryd.underlying27 (by kernel_rfl) (Go.Av.opens_struct (tot := 5) Tryd.underlying38 (by kernel_rfl) (Go.Av.opensF_cons (k := 1) rfl (by kernel_rfl) (Go.Av.opens_int Tryd.underlying3) (Go.Av.opensF_cons (k := 1) rfl (by kernel_rfl) (Go.Av.opens_strs Tryd.underlying35 Tryd.underlying9 (by kernel_rfl)) (Go.Av.opensF_cons (k := 3) rfl (by kernel_rfl) (Go.Av.opens_array3 (c := 1) Tryd.underlying36 (by kernel_rfl) (by kernel_rfl) (Go.Av.opens_int Tryd.underlying3)) (Go.Av.opensF_nil (tot := 5)))))) (fun _ => rfl))
  clear hA0 hval0
  refine (Go.Av.law_of (gZ 2000000 (l0) none true (Go.Rp.ReplyBack_t (l0))) (Go.Av.RelL.cons w0 Go.Av.RelL.nil) (globsReplyBack hsh hL)).mono fun e W' ⟨he, bel⟩ => ?_
  subst he
  exact ⟨_, rfl, _, _, _, [], _, [], hW', trodAll_mk1 (shut_bool Tryd.underlying4 _), (trodAll_cons_mk (Below.trod laidOutReplyBack (by kernel_rfl) (of_decide_eq_true (by kernel_rfl)) k0 bel lt0) trodAll_mk0), rfl, bel.frame _, fun h => by cases h⟩
set_option maxRecDepth 100000
theorem jfReplyBack0 : (Rows.replyBackRow.wf (OpenSpec.ofChange Rows.replyBackSpec)) = true := by kernel_rfl
theorem jfReplyBack1 : (laidOutB Tryd.prog) = true := by kernel_rfl
theorem jfReplyBack2 : (mapsRowed Tryd.prog) = true := by kernel_rfl
theorem jfReplyBack3 : (Tryd.f6.params.all (Tryd.prog.readableRec ·)) = true := by kernel_rfl
theorem jfReplyBack4 : (namedTie Tryd.prog Rows.replyBackRow.named Rows.replyBackSpec.vars) = true := by kernel_rfl
theorem jfReplyBack5 : ((Rows.replyBackRow.stops == [])) = true := by kernel_rfl
theorem jfReplyBack6 : ((Tryd.prog.stops == [])) = true := by kernel_rfl
theorem jfReplyBack7 : ((Rows.replyBackRow.knobs == [])) = true := by kernel_rfl
theorem jfReplyBack8 : ((Tryd.prog.stopKnobs == [])) = true := by kernel_rfl
theorem jfReplyBack9 : ((Rows.replyBackRow.inPlace == Tryd.prog.inPlace 6)) = true := by kernel_rfl
theorem jfReplyBack10 : ((Rows.replyBackRow.unfollowed == Tryd.prog.unfollowed 6)) = true := by kernel_rfl
theorem jfReplyBack11 : ((Rows.replyBackRow.recurses == Tryd.prog.recurses 6)) = true := by kernel_rfl
theorem jfReplyBack12 : ((Rows.replyBackRow.named == Tryd.prog.varsNamed 6)) = true := by kernel_rfl
theorem jfReplyBack13 : ((Rows.replyBackRow.maps == (Tryd.f6.params.toList ++ Rows.replyBackSpec.plain.varTypes Tryd.prog).any (Tryd.prog.mapsRec ·))) = true := by kernel_rfl
theorem jfReplyBack14 : ((Rows.replyBackRow.ifaces == (Tryd.f6.params.toList ++ Rows.replyBackSpec.plain.varTypes Tryd.prog).any (Tryd.prog.ifacesRec ·))) = true := by kernel_rfl
theorem jfReplyBack15 : ((Rows.replyBackRow.mapsOut == Tryd.prog.mapsAmong Tryd.f6.resultTypes.toList)) = true := by kernel_rfl
theorem jfReplyBack16 : ((Rows.replyBackRow.loops == (Tryd.f6.params.toList ++ Rows.replyBackSpec.plain.varTypes Tryd.prog).any (Tryd.prog.loopsFrom ·))) = true := by kernel_rfl
theorem jfReplyBack17 : ((Rows.replyBackRow.wideKeys == (Tryd.f6.params.toList ++ Rows.replyBackSpec.plain.varTypes Tryd.prog ++ Tryd.f6.resultTypes.toList).any (Tryd.prog.wideKeysFrom ·))) = true := by kernel_rfl
theorem jfReplyBack18 : (Rows.replyBackSpec.vars.all (Tryd.prog.varReadable ·)) = true := by kernel_rfl
theorem jfReplyBack19 : (Tryd.f6.resultTypes.all (fun t => Tryd.prog.readableRec t && decide (t < Tryd.prog.types.size))) = true := by kernel_rfl
theorem jfReplyBack20 : ((Rows.replyBackRow.ifacesOut == Tryd.f6.resultTypes.toList.any (Tryd.prog.ifacesRec ·))) = true := by kernel_rfl
theorem jfReplyBack21 : ((Rows.replyBackRow.loopsOut == Tryd.f6.resultTypes.toList.any (Tryd.prog.loopsFrom ·))) = true := by kernel_rfl
theorem jfReplyBack22 : ((Rows.replyBackRow.plainKeys == Tryd.prog.plainKeys)) = true := by kernel_rfl
theorem jfReplyBack23 : (Rows.replyBackRow.shortTexts.isNone) = true := by kernel_rfl
theorem jfReplyBack24 : (Tryd.prog.stopsHeard) = true := by kernel_rfl
theorem jfReplyBack25 : (Tryd.prog.mayEnter) = true := by kernel_rfl
theorem jfReplyBack26 : ((Rows.replyBackRow.lifted == Tryd.prog.liftsFinal)) = true := by kernel_rfl
theorem jfReplyBack27 : ((Tryd.prog.make == some Rows.replyBackRow.make)) = true := by kernel_rfl
theorem jfReplyBack28 : ((Rows.replyBackRow.kinds == (if Rows.replyBackRow.domain.isEmpty then [] else Tryd.f6.params.toList.map fun t => match Tryd.prog.underlying t with | some (.int k) => some k | _ => none))) = true := by kernel_rfl
theorem jfReplyBack29 : ((Rows.replyBackRow.pinned == Rows.replyBackRow.pinnedBy)) = true := by kernel_rfl
theorem jfReplyBack30 : ((Rows.replyBackRow.veiled == (Tryd.f6.params.toList ++ Rows.replyBackSpec.plain.varTypes Tryd.prog ++ Tryd.f6.resultTypes.toList).any (Tryd.prog.veiledRec ·))) = true := by kernel_rfl
theorem jfReplyBack31 : (Rows.replyBackRow.veiledFits Tryd.prog Tryd.f6.params.toList (Tryd.f6.params.toList ++ Rows.replyBackSpec.plain.varTypes Tryd.prog ++ Tryd.f6.resultTypes.toList)) = true := by kernel_rfl
theorem jfReplyBack : joinedFacts Tryd.prog 6 Tryd.f6 Rows.replyBackSpec Rows.replyBackRow = true := by
  unfold joinedFacts
  simp only [Bool.and_eq_true]
  exact ⟨⟨⟨⟨⟨⟨⟨⟨⟨⟨⟨⟨⟨⟨⟨⟨⟨⟨⟨⟨⟨⟨⟨⟨⟨⟨⟨⟨⟨⟨⟨jfReplyBack0, jfReplyBack1⟩, jfReplyBack2⟩, jfReplyBack3⟩, jfReplyBack4⟩, jfReplyBack5⟩, jfReplyBack6⟩, jfReplyBack7⟩, jfReplyBack8⟩, jfReplyBack9⟩, jfReplyBack10⟩, jfReplyBack11⟩, jfReplyBack12⟩, jfReplyBack13⟩, jfReplyBack14⟩, jfReplyBack15⟩, jfReplyBack16⟩, jfReplyBack17⟩, jfReplyBack18⟩, jfReplyBack19⟩, jfReplyBack20⟩, jfReplyBack21⟩, jfReplyBack22⟩, jfReplyBack23⟩, jfReplyBack24⟩, jfReplyBack25⟩, jfReplyBack26⟩, jfReplyBack27⟩, jfReplyBack28⟩, jfReplyBack29⟩, jfReplyBack30⟩, jfReplyBack31⟩
theorem overReplyBack : Rows.replyBackRow.holds Tryd.pinned (OpenSpec.ofChange Rows.replyBackSpec) :=
  OpenClaim.holds_of_wide 6 Tryd.f6 rfl rfl rfl rfl rfl rfl rfl ⟨rfl, rfl, rfl, rfl, rfl⟩ rfl rfl rfl rfl rfl (by kernel_rfl) Tryd.func6 jfReplyBack
    (of_decide_eq_true (by kernel_rfl)) (by unfold Func.isWrapper; first | (rw [if_pos (by decide +kernel)]; kernel_rfl) | (rw [if_neg (by decide +kernel)]; exact ⟨rfl, rfl⟩))
    (fun os started H enc _ => liftedReplyBack os started H enc)
/-- The given statement: the card. -/
theorem ReplyBack_holds : Rows.ReplyBackCardSaid :=
  Claim7.holds_tied_plain_at .later [] [.data, .data, .data, .data, .sentinel, .sentinel, .pinned] true (true, "8621b3c558fc8430ed761eff9713f5722433eb2b533ffc2002dff6a3e0b31e5b") true overReplyBack (fun _ h => by cases h) (by kernel_rfl) (fun _ h => by cases h) replyBack_row_tie rfl ⟨rfl, rfl⟩ (by kernel_rfl) rfl
    (fun f fn hf hfn => by
      obtain rfl : f = 6 := Option.some.inj ((show Tryd.prog.funcNamed Rows.replyBackRow.func = some 6 by kernel_rfl).symm.trans hf) |>.symm
      obtain rfl : fn = Tryd.f6 := (Option.some.inj (Tryd.func6.symm.trans hfn)).symm
      exact ⟨by kernel_rfl, fun j t ht => by
        rw [Tryd.params6] at ht
        have hm : t ∈ [27] := by have := Array.mem_of_getElem? ht; simpa using this
        have hall : ([27].all fun u => !Tryd.prog.wantsStandIn u) = true := by kernel_rfl
        exact (show Tryd.prog.wantsStandIn t = false by simpa using List.all_eq_true.1 hall t hm)⟩)
    (by kernel_rfl)
end Go.Proofs.YtimpbfniegimaaaDoor
