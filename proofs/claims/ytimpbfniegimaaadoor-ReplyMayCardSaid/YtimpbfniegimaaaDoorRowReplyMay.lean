/-
  ReplyMay: the row, out of the walk and the plain law; and its card.
-/
import Derived.Test.YtimpbfniegimaaaDoorRows
import Derived.Test.YtimpbfniegimaaaDoorCards
import Derived.Test.YtimpbfniegimaaaDoorTie
import Derived.Test.YtimpbfniegimaaaDoorZReplyMay3
import Derived.Lib.LaidTab
import Derived.Stop.LaidErr
import Derived.WalkKit
import Derived.ProofKit
import Derived.OpenShut
import Derived.ShutString
import Derived.ChangeOld
import Derived.Below
import Derived.LaidMore
import Derived.Lay
import Derived.SevenTiedAt
import Derived.Stop.Joined
namespace Go.Proofs.YtimpbfniegimaaaDoor
open Go.ChangeShapes Go.WideShapes Go.ChangeAt Go.RowKit
open Go.ChangeMaps (open_string shut_string)
set_option linter.unusedVariables false
theorem ownReplyMay : ownKnob Tryd.prog.godebug = none := by kernel_rfl
theorem laidOutReplyMay : laidOutB Tryd.prog = true := by kernel_rfl
theorem plainLaidReplyMay : (Rows.replyMayRow.laid.all fun x => x.2.handleName?.isNone) = true := by kernel_rfl
/-- What the variables that the walk reads hold when the call begins. -/
theorem globsReplyMay {W : World} (hsh : W.ShapedOpen Tryd.prog) (hL : laidMetH Tryd.prog Rows.replyMayRow.laid W) : ∀ g cs, Go.Av.G g = some cs → Go.Av.Rel (Go.Av.Info.start W) W (Go.Av.gv cs) (.pointer (some ⟨g, 0, none⟩)) := by
  rw [MakeChecks.laidMetH_plain _ _ _ plainLaidReplyMay] at hL
  have x0 : ∃ m, W.cell? ⟨0, 0, none⟩ = some (.int .i64 m) := cell_of_shapedOpen_int (P := Tryd.prog) (g := 0) (t := 3) (zero := #[.int .i64 0]) hsh (of_decide_eq_true (by kernel_rfl)) (by kernel_rfl) rfl (by kernel_rfl) (by kernel_rfl) Tryd.underlying3
  have e1 : (Rows.laid_internal_strconv_uint64pow10 : DataW Unit) = Go.Lib.tabData .u64 Go.Lib.pow10Tab := by kernel_rfl
  have y1 := (laidMet.tail (laidMet.tail hL))
  have z1 : ∃ r, laidMet Tryd.prog (("internal/strconv.uint64pow10", Go.Lib.tabData .u64 Go.Lib.pow10Tab) :: r) W := by
    rw [← e1]
    exact ⟨_, y1⟩
  have x1 : Go.Lib.TabIs Tryd.prog W "internal/strconv.uint64pow10" .u64 Go.Lib.pow10Tab := by
    obtain ⟨r, h⟩ := z1
    exact Go.Lib.tabIs_of_head (g := 1) (t := 115) (e := 97) (n := 20) (by kernel_rfl) (by kernel_rfl) Tryd.underlying115 Tryd.underlying97 (by kernel_rfl) (by kernel_rfl) h
  have x2 : ∃ v, W.cell? ⟨2, 0, none⟩ = some v ∧ (v = .nilIface ∨ ∃ u y, v = .iface u y) := Go.Av.laid_iface (n := "strconv.ErrSyntax") (d := Rows.laid_strconv_ErrSyntax) hL (by simp [Rows.replyMayRow]) (by kernel_rfl) (by kernel_rfl) Tryd.underlying81
  have x3 : ∃ v, W.cell? ⟨3, 0, none⟩ = some v ∧ (v = .nilIface ∨ ∃ u y, v = .iface u y) := Go.Av.laid_iface (n := "strconv.ErrRange") (d := Rows.laid_strconv_ErrRange) hL (by simp [Rows.replyMayRow]) (by kernel_rfl) (by kernel_rfl) Tryd.underlying81
  intro g cs hG
  rcases g with _ | _ | _ | _ | g
  · obtain rfl := Option.some.inj hG
    obtain ⟨m, hm⟩ := x0
    exact Go.Av.rel_var hm (.anyk _ _)
  · obtain rfl := Option.some.inj hG
    have h := Go.Av.rel_tab (g := 1) (by kernel_rfl) x1
    simpa [Go.Lib.pow10Tab, Function.comp_def] using h
  · obtain rfl := Option.some.inj hG
    obtain ⟨v, hv, hk⟩ := x2
    exact Go.Av.rel_var hv (Go.Av.rel_anyi hk)
  · obtain rfl := Option.some.inj hG
    obtain ⟨v, hv, hk⟩ := x3
    exact Go.Av.rel_var hv (Go.Av.rel_anyi hk)
  · simp [Go.Av.G] at hG
set_option maxRecDepth 100000 in
theorem liftedReplyMay (os : Os) (started : os.Started) (H : Type) (enc : TypeId × Value → H) :
    ReturnsInHanded {} Tryd.checked os 7 .any (fun w args => (Rows.replyMaySpec.pre enc Tryd.prog Tryd.f7 Rows.replyMayRow.domain false w args ∧ laidMetH Tryd.prog Rows.replyMayRow.laid w) ∧ sizedMet enc Tryd.prog Tryd.f7 (OpenSpec.ofChange Rows.replyMaySpec) false w args)
      (Rows.replyMaySpec.post enc Tryd.prog Tryd.f7 false true false false) := by
  refine Go.Av.returns_and_shaped (C := Tryd.checked) (X := fun w _ => laidMetH Tryd.prog Rows.replyMayRow.laid w) (fun _ _ _ hh h => h.of_heap hh) ownReplyMay started (by kernel_rfl) Tryd.func7
    (ChangeSpec.witness_shaped (enc := enc) (C := Tryd.checked) (os := os) (X := fun w _ => laidMetH Tryd.prog Rows.replyMayRow.laid w) false (World.laidAll Tryd.prog os Rows.replyMayRow.laid) #[.slice none 0 0] 8 (World.laidAll_os _ _ _)
      (World.shaped_of_ZipB (by kernel_rfl) (by kernel_rfl)) (by kernel_rfl) (by kernel_rfl) (by kernel_rfl)
      (by rw [MakeChecks.laidMetH_plain _ _ _ plainLaidReplyMay]; exact laidMet_laidAll _ (by kernel_rfl) (by kernel_rfl))) ?_
  intro W base args ds gs before hval0 hW hsh hL
  have hval : ∀ (j : Nat) t v, Tryd.f7.params[j]? = some t → args[j]? = some v → Value.okWide Tryd.prog W .any base t v := hval0
  have hW' := hW
  obtain ⟨p, q, hA0, hV, rfl, hfz, hnd⟩ := hW
  have hA : DataW.TrodAll enc Tryd.prog W 0 (fun _ => true) true Tryd.f7.params.toList args.toList ds p := hA0
  rw [Tryd.params7] at hA hval
  obtain ⟨v0, vs0, d0, ds0, p0, q0, hargs, rfl, rfl, h0, r0⟩ := trodAll_cons hA
  obtain ⟨rfl, rfl, rfl⟩ := trodAll_nil r0
  obtain rfl : args = #[v0] := by cases args; simp_all
  obtain ⟨rfl, rfl⟩ := trodVars_none hV
  have k0 := h0
  have lt0 : ∀ x ∈ p0, x.block < W.heap.size := by obtain ⟨m, hm⟩ := k0; exact DataW.trod_lt m _ _ _ hm
  obtain ⟨a0, len0, cap0, rfl⟩ := okWide_slice Tryd.underlying22 (hval 0 22 v0 rfl rfl)
  obtain ⟨l0, hl0, hm0, w0⟩ : ∃ l : List UInt8, l.length = len0 ∧ len0 ≤ maxLen ∧ Go.Av.Rel (Go.Av.Info.start W) W (Go.Av.slE Go.Av.Enc.byte l none) (.slice a0 len0 cap0) := by
    obtain ⟨fuel, hf⟩ := h0
    rcases open_ints Tryd.underlying22 Tryd.underlying5 (by kernel_rfl) hf with ⟨hcs, _⟩ | ⟨x, l, c, zs, hcs, _, hl, hm, hz, _, hcell, hwz⟩
    · simp [Value.cells] at hcs
      obtain ⟨rfl, rfl, rfl⟩ := hcs
      exact Go.Av.rel_bytes (.inl ⟨rfl, rfl, rfl, rfl⟩)
    · simp [Value.cells] at hcs
      obtain ⟨rfl, rfl, rfl⟩ := hcs
      exact Go.Av.rel_bytes (.inr ⟨_, rfl, hl, hm, by simpa using hz, hcell, hwz⟩)
  clear hA0 hval0
  refine (Go.Av.law_of (hB 2000000 (l0) none true (Go.Rp.ReplyMay_t (l0))) (Go.Av.RelL.cons w0 Go.Av.RelL.nil) (globsReplyMay hsh hL)).mono fun e W' ⟨he, bel⟩ => ?_
  subst he
  exact ⟨_, rfl, _, _, _, [], _, [], hW', trodAll_mk1 (shut_bool Tryd.underlying4 _), (trodAll_cons_mk (Below.trod laidOutReplyMay (by kernel_rfl) (of_decide_eq_true (by kernel_rfl)) k0 bel lt0) trodAll_mk0), rfl, bel.frame _, fun h => by cases h⟩
set_option maxRecDepth 100000
theorem jfReplyMay0 : (Rows.replyMayRow.wf (OpenSpec.ofChange Rows.replyMaySpec)) = true := by kernel_rfl
theorem jfReplyMay1 : (laidOutB Tryd.prog) = true := by kernel_rfl
theorem jfReplyMay2 : (mapsRowed Tryd.prog) = true := by kernel_rfl
theorem jfReplyMay3 : (Tryd.f7.params.all (Tryd.prog.readableRec ·)) = true := by kernel_rfl
theorem jfReplyMay4 : (namedTie Tryd.prog Rows.replyMayRow.named Rows.replyMaySpec.vars) = true := by kernel_rfl
theorem jfReplyMay5 : ((Rows.replyMayRow.stops == [])) = true := by kernel_rfl
theorem jfReplyMay6 : ((Tryd.prog.stops == [])) = true := by kernel_rfl
theorem jfReplyMay7 : ((Rows.replyMayRow.knobs == [])) = true := by kernel_rfl
theorem jfReplyMay8 : ((Tryd.prog.stopKnobs == [])) = true := by kernel_rfl
theorem jfReplyMay9 : ((Rows.replyMayRow.inPlace == Tryd.prog.inPlace 7)) = true := by kernel_rfl
theorem jfReplyMay10 : ((Rows.replyMayRow.unfollowed == Tryd.prog.unfollowed 7)) = true := by kernel_rfl
theorem jfReplyMay11 : ((Rows.replyMayRow.recurses == Tryd.prog.recurses 7)) = true := by kernel_rfl
theorem jfReplyMay12 : ((Rows.replyMayRow.named == Tryd.prog.varsNamed 7)) = true := by kernel_rfl
theorem jfReplyMay13 : ((Rows.replyMayRow.maps == (Tryd.f7.params.toList ++ Rows.replyMaySpec.plain.varTypes Tryd.prog).any (Tryd.prog.mapsRec ·))) = true := by kernel_rfl
theorem jfReplyMay14 : ((Rows.replyMayRow.ifaces == (Tryd.f7.params.toList ++ Rows.replyMaySpec.plain.varTypes Tryd.prog).any (Tryd.prog.ifacesRec ·))) = true := by kernel_rfl
theorem jfReplyMay15 : ((Rows.replyMayRow.mapsOut == Tryd.prog.mapsAmong Tryd.f7.resultTypes.toList)) = true := by kernel_rfl
theorem jfReplyMay16 : ((Rows.replyMayRow.loops == (Tryd.f7.params.toList ++ Rows.replyMaySpec.plain.varTypes Tryd.prog).any (Tryd.prog.loopsFrom ·))) = true := by kernel_rfl
theorem jfReplyMay17 : ((Rows.replyMayRow.wideKeys == (Tryd.f7.params.toList ++ Rows.replyMaySpec.plain.varTypes Tryd.prog ++ Tryd.f7.resultTypes.toList).any (Tryd.prog.wideKeysFrom ·))) = true := by kernel_rfl
theorem jfReplyMay18 : (Rows.replyMaySpec.vars.all (Tryd.prog.varReadable ·)) = true := by kernel_rfl
theorem jfReplyMay19 : (Tryd.f7.resultTypes.all (fun t => Tryd.prog.readableRec t && decide (t < Tryd.prog.types.size))) = true := by kernel_rfl
theorem jfReplyMay20 : ((Rows.replyMayRow.ifacesOut == Tryd.f7.resultTypes.toList.any (Tryd.prog.ifacesRec ·))) = true := by kernel_rfl
theorem jfReplyMay21 : ((Rows.replyMayRow.loopsOut == Tryd.f7.resultTypes.toList.any (Tryd.prog.loopsFrom ·))) = true := by kernel_rfl
theorem jfReplyMay22 : ((Rows.replyMayRow.plainKeys == Tryd.prog.plainKeys)) = true := by kernel_rfl
theorem jfReplyMay23 : (Rows.replyMayRow.shortTexts.isNone) = true := by kernel_rfl
theorem jfReplyMay24 : (Tryd.prog.stopsHeard) = true := by kernel_rfl
theorem jfReplyMay25 : (Tryd.prog.mayEnter) = true := by kernel_rfl
theorem jfReplyMay26 : ((Rows.replyMayRow.lifted == Tryd.prog.liftsFinal)) = true := by kernel_rfl
theorem jfReplyMay27 : ((Tryd.prog.make == some Rows.replyMayRow.make)) = true := by kernel_rfl
theorem jfReplyMay28 : ((Rows.replyMayRow.kinds == (if Rows.replyMayRow.domain.isEmpty then [] else Tryd.f7.params.toList.map fun t => match Tryd.prog.underlying t with | some (.int k) => some k | _ => none))) = true := by kernel_rfl
theorem jfReplyMay29 : ((Rows.replyMayRow.pinned == Rows.replyMayRow.pinnedBy)) = true := by kernel_rfl
theorem jfReplyMay30 : ((Rows.replyMayRow.veiled == (Tryd.f7.params.toList ++ Rows.replyMaySpec.plain.varTypes Tryd.prog ++ Tryd.f7.resultTypes.toList).any (Tryd.prog.veiledRec ·))) = true := by kernel_rfl
theorem jfReplyMay31 : (Rows.replyMayRow.veiledFits Tryd.prog Tryd.f7.params.toList (Tryd.f7.params.toList ++ Rows.replyMaySpec.plain.varTypes Tryd.prog ++ Tryd.f7.resultTypes.toList)) = true := by kernel_rfl
theorem jfReplyMay : joinedFacts Tryd.prog 7 Tryd.f7 Rows.replyMaySpec Rows.replyMayRow = true := by
  unfold joinedFacts
  simp only [Bool.and_eq_true]
  exact ⟨⟨⟨⟨⟨⟨⟨⟨⟨⟨⟨⟨⟨⟨⟨⟨⟨⟨⟨⟨⟨⟨⟨⟨⟨⟨⟨⟨⟨⟨⟨jfReplyMay0, jfReplyMay1⟩, jfReplyMay2⟩, jfReplyMay3⟩, jfReplyMay4⟩, jfReplyMay5⟩, jfReplyMay6⟩, jfReplyMay7⟩, jfReplyMay8⟩, jfReplyMay9⟩, jfReplyMay10⟩, jfReplyMay11⟩, jfReplyMay12⟩, jfReplyMay13⟩, jfReplyMay14⟩, jfReplyMay15⟩, jfReplyMay16⟩, jfReplyMay17⟩, jfReplyMay18⟩, jfReplyMay19⟩, jfReplyMay20⟩, jfReplyMay21⟩, jfReplyMay22⟩, jfReplyMay23⟩, jfReplyMay24⟩, jfReplyMay25⟩, jfReplyMay26⟩, jfReplyMay27⟩, jfReplyMay28⟩, jfReplyMay29⟩, jfReplyMay30⟩, jfReplyMay31⟩
theorem overReplyMay : Rows.replyMayRow.holds Tryd.pinned (OpenSpec.ofChange Rows.replyMaySpec) :=
  OpenClaim.holds_of_wide 7 Tryd.f7 rfl rfl rfl rfl rfl rfl rfl ⟨rfl, rfl, rfl, rfl, rfl⟩ rfl rfl rfl rfl rfl (by kernel_rfl) Tryd.func7 jfReplyMay
    (of_decide_eq_true (by kernel_rfl)) (by unfold Func.isWrapper; first | (rw [if_pos (by decide +kernel)]; kernel_rfl) | (rw [if_neg (by decide +kernel)]; exact ⟨rfl, rfl⟩))
    (fun os started H enc _ => liftedReplyMay os started H enc)
/-- The given statement: the card. -/
theorem ReplyMay_holds : Rows.ReplyMayCardSaid :=
  Claim7.holds_tied_plain_at .later [] [.data, .data, .data, .data, .sentinel, .sentinel, .pinned] true (true, "8621b3c558fc8430ed761eff9713f5722433eb2b533ffc2002dff6a3e0b31e5b") true overReplyMay (fun _ h => by cases h) (by kernel_rfl) (fun _ h => by cases h) replyMay_row_tie rfl ⟨rfl, rfl⟩ (by kernel_rfl) rfl
    (fun f fn hf hfn => by
      obtain rfl : f = 7 := Option.some.inj ((show Tryd.prog.funcNamed Rows.replyMayRow.func = some 7 by kernel_rfl).symm.trans hf) |>.symm
      obtain rfl : fn = Tryd.f7 := (Option.some.inj (Tryd.func7.symm.trans hfn)).symm
      exact ⟨by kernel_rfl, fun j t ht => by
        rw [Tryd.params7] at ht
        have hm : t ∈ [22] := by have := Array.mem_of_getElem? ht; simpa using this
        have hall : ([22].all fun u => !Tryd.prog.wantsStandIn u) = true := by kernel_rfl
        exact (show Tryd.prog.wantsStandIn t = false by simpa using List.all_eq_true.1 hall t hm)⟩)
    (by kernel_rfl)
end Go.Proofs.YtimpbfniegimaaaDoor
