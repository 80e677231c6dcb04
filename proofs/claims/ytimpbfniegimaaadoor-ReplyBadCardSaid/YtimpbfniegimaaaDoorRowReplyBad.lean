/-
  ReplyBad: the row, out of the walk and the plain law; and its card.
-/
import Derived.Test.YtimpbfniegimaaaDoorRows
import Derived.Test.YtimpbfniegimaaaDoorCards
import Derived.Test.YtimpbfniegimaaaDoorTie
import Derived.Test.YtimpbfniegimaaaDoorZReplyBad3
import Derived.Lib.LaidTab
import Derived.Stop.LaidErr
import Derived.WalkKit
import Derived.ProofKit
import Derived.OpenShut
import Derived.ShutString
import Derived.ChangeOld
import Derived.Below
import Derived.LaidMore
import Derived.Lay
import Derived.SevenTiedAt
import Derived.Stop.Joined
namespace Go.Proofs.YtimpbfniegimaaaDoor
open Go.ChangeShapes Go.WideShapes Go.ChangeAt Go.RowKit
open Go.ChangeMaps (open_string shut_string)
set_option linter.unusedVariables false
theorem ownReplyBad : ownKnob Tryd.prog.godebug = none := by kernel_rfl
theorem laidOutReplyBad : laidOutB Tryd.prog = true := by kernel_rfl
theorem plainLaidReplyBad : (Rows.replyBadRow.laid.all fun x => x.2.handleName?.isNone) = true := by kernel_rfl
/-- What the variables that the walk reads hold when the call begins. -/
theorem globsReplyBad {W : World} (hsh : W.ShapedOpen Tryd.prog) (hL : laidMetH Tryd.prog Rows.replyBadRow.laid W) : ∀ g cs, Go.Av.G g = some cs → Go.Av.Rel (Go.Av.Info.start W) W (Go.Av.gv cs) (.pointer (some ⟨g, 0, none⟩)) := by
  rw [MakeChecks.laidMetH_plain _ _ _ plainLaidReplyBad] at hL
  have x0 : ∃ m, W.cell? ⟨0, 0, none⟩ = some (.int .i64 m) := cell_of_shapedOpen_int (P := Tryd.prog) (g := 0) (t := 3) (zero := #[.int .i64 0]) hsh (of_decide_eq_true (by kernel_rfl)) (by kernel_rfl) rfl (by kernel_rfl) (by kernel_rfl) Tryd.underlying3
  have e1 : (Rows.laid_internal_strconv_uint64pow10 : DataW Unit) = Go.Lib.tabData .u64 Go.Lib.pow10Tab := by kernel_rfl
  have y1 := (laidMet.tail (laidMet.tail hL))
  have z1 : ∃ r, laidMet Tryd.prog (("internal/strconv.uint64pow10", Go.Lib.tabData .u64 Go.Lib.pow10Tab) :: r) W := by
    rw [← e1]
    exact ⟨_, y1⟩
  have x1 : Go.Lib.TabIs Tryd.prog W "internal/strconv.uint64pow10" .u64 Go.Lib.pow10Tab := by
    obtain ⟨r, h⟩ := z1
    exact Go.Lib.tabIs_of_head (g := 1) (t := 115) (e := 97) (n := 20) (by kernel_rfl) (by kernel_rfl) Tryd.underlying115 Tryd.underlying97 (by kernel_rfl) (by kernel_rfl) h
  have x2 : ∃ v, W.cell? ⟨2, 0, none⟩ = some v ∧ (v = .nilIface ∨ ∃ u y, v = .iface u y) := Go.Av.laid_iface (n := "strconv.ErrSyntax") (d := Rows.laid_strconv_ErrSyntax) hL (by simp [Rows.replyBadRow]) (by kernel_rfl) (by kernel_rfl) Tryd.underlying81
  have x3 : ∃ v, W.cell? ⟨3, 0, none⟩ = some v ∧ (v = .nilIface ∨ ∃ u y, v = .iface u y) := Go.Av.laid_iface (n := "strconv.ErrRange") (d := Rows.laid_strconv_ErrRange) hL (by simp [Rows.replyBadRow]) (by kernel_rfl) (by kernel_rfl) Tryd.underlying81
  intro g cs hG
  rcases g with _ | _ | _ | _ | g
  · obtain rfl := Option.some.inj hG
    obtain ⟨m, hm⟩ := x0
    exact Go.Av.rel_var hm (.anyk _ _)
  · obtain rfl := Option.some.inj hG
    have h := Go.Av.rel_tab (g := 1) (by kernel_rfl) x1
    simpa [Go.Lib.pow10Tab, Function.comp_def] using h
  · obtain rfl := Option.some.inj hG
    obtain ⟨v, hv, hk⟩ := x2
    exact Go.Av.rel_var hv (Go.Av.rel_anyi hk)
  · obtain rfl := Option.some.inj hG
    obtain ⟨v, hv, hk⟩ := x3
    exact Go.Av.rel_var hv (Go.Av.rel_anyi hk)
  · simp [Go.Av.G] at hG
set_option maxRecDepth 100000 in
theorem liftedReplyBad (os : Os) (started : os.Started) (H : Type) (enc : TypeId × Value → H) :
    ReturnsInHanded {} Tryd.checked os 4 .any (fun w args => (Rows.replyBadSpec.pre enc Tryd.prog Tryd.f4 Rows.replyBadRow.domain false w args ∧ laidMetH Tryd.prog Rows.replyBadRow.laid w) ∧ sizedMet enc Tryd.prog Tryd.f4 (OpenSpec.ofChange Rows.replyBadSpec) false w args)
      (Rows.replyBadSpec.post enc Tryd.prog Tryd.f4 false true false false) := by
  refine Go.Av.returns_and_shaped (C := Tryd.checked) (X := fun w _ => laidMetH Tryd.prog Rows.replyBadRow.laid w) (fun _ _ _ hh h => h.of_heap hh) ownReplyBad started (by kernel_rfl) Tryd.func4
    (ChangeSpec.witness_shaped (enc := enc) (C := Tryd.checked) (os := os) (X := fun w _ => laidMetH Tryd.prog Rows.replyBadRow.laid w) false (World.laidAll Tryd.prog os Rows.replyBadRow.laid) #[.slice none 0 0, .slice none 0 0] 8 (World.laidAll_os _ _ _)
      (World.shaped_of_ZipB (by kernel_rfl) (by kernel_rfl)) (by kernel_rfl) (by kernel_rfl) (by kernel_rfl)
      (by rw [MakeChecks.laidMetH_plain _ _ _ plainLaidReplyBad]; exact laidMet_laidAll _ (by kernel_rfl) (by kernel_rfl))) ?_
  intro W base args ds gs before hval0 hW hsh hL
  have hval : ∀ (j : Nat) t v, Tryd.f4.params[j]? = some t → args[j]? = some v → Value.okWide Tryd.prog W .any base t v := hval0
  have hW' := hW
  obtain ⟨p, q, hA0, hV, rfl, hfz, hnd⟩ := hW
  have hA : DataW.TrodAll enc Tryd.prog W 0 (fun _ => true) true Tryd.f4.params.toList args.toList ds p := hA0
  rw [Tryd.params4] at hA hval
  obtain ⟨v0, vs0, d0, ds0, p0, q0, hargs, rfl, rfl, h0, r0⟩ := trodAll_cons hA
  obtain ⟨v1, vs1, d1, ds1, p1, q1, rfl, rfl, rfl, h1, r1⟩ := trodAll_cons r0
  obtain ⟨rfl, rfl, rfl⟩ := trodAll_nil r1
  obtain rfl : args = #[v0, v1] := by cases args; simp_all
  obtain ⟨rfl, rfl⟩ := trodVars_none hV
  have k0 := h0
  have lt0 : ∀ x ∈ p0, x.block < W.heap.size := by obtain ⟨m, hm⟩ := k0; exact DataW.trod_lt m _ _ _ hm
  have k1 := h1
  have lt1 : ∀ x ∈ p1, x.block < W.heap.size := by obtain ⟨m, hm⟩ := k1; exact DataW.trod_lt m _ _ _ hm
  obtain ⟨a0, len0, cap0, rfl⟩ := okWide_slice Tryd.underlying22 (hval 0 22 v0 rfl rfl)
  obtain ⟨l0, hl0, hm0, w0⟩ : ∃ l : List UInt8, l.length = len0 ∧ len0 ≤ maxLen ∧ Go.Av.Rel (Go.Av.Info.start W) W (Go.Av.slE Go.Av.Enc.byte l none) (.slice a0 len0 cap0) := by
    obtain ⟨fuel, hf⟩ := h0
    rcases open_ints Tryd.underlying22 Tryd.underlying5 (by kernel_rfl) hf with ⟨hcs, _⟩ | ⟨x, l, c, zs, hcs, _, hl, hm, hz, _, hcell, hwz⟩
    · simp [Value.cells] at hcs
      obtain ⟨rfl, rfl, rfl⟩ := hcs
      exact Go.Av.rel_bytes (.inl ⟨rfl, rfl, rfl, rfl⟩)
    · simp [Value.cells] at hcs
      obtain ⟨rfl, rfl, rfl⟩ := hcs
      exact Go.Av.rel_bytes (.inr ⟨_, rfl, hl, hm, by simpa using hz, hcell, hwz⟩)
  obtain ⟨a1, len1, cap1, rfl⟩ := okWide_slice Tryd.underlying22 (hval 1 22 v1 rfl rfl)
  obtain ⟨l1, hl1, hm1, w1⟩ : ∃ l : List UInt8, l.length = len1 ∧ len1 ≤ maxLen ∧ Go.Av.Rel (Go.Av.Info.start W) W (Go.Av.slE Go.Av.Enc.byte l none) (.slice a1 len1 cap1) := by
    obtain ⟨fuel, hf⟩ := h1
    rcases open_ints Tryd.underlying22 Tryd.underlying5 (by kernel_rfl) hf with ⟨hcs, _⟩ | ⟨x, l, c, zs, hcs, _, hl, hm, hz, _, hcell, hwz⟩
    · simp [Value.cells] at hcs
      obtain ⟨rfl, rfl, rfl⟩ := hcs
      exact Go.Av.rel_bytes (.inl ⟨rfl, rfl, rfl, rfl⟩)
    · simp [Value.cells] at hcs
      obtain ⟨rfl, rfl, rfl⟩ := hcs
      exact Go.Av.rel_bytes (.inr ⟨_, rfl, hl, hm, by simpa using hz, hcell, hwz⟩)
  clear hA0 hval0
  refine (Go.Av.law_of (gR 2000000 (l0) none (l1) none true (Go.Rp.ReplyBad_t (l0) (l1))) (Go.Av.RelL.cons w0 (Go.Av.RelL.cons w1 Go.Av.RelL.nil)) (globsReplyBad hsh hL)).mono fun e W' ⟨he, bel⟩ => ?_
  subst he
  exact ⟨_, rfl, _, _, _, [], _, [], hW', trodAll_mk1 (shut_bool Tryd.underlying4 _), (trodAll_cons_mk (Below.trod laidOutReplyBad (by kernel_rfl) (of_decide_eq_true (by kernel_rfl)) k0 bel lt0) (trodAll_cons_mk (Below.trod laidOutReplyBad (by kernel_rfl) (of_decide_eq_true (by kernel_rfl)) k1 bel lt1) trodAll_mk0)), rfl, bel.frame _, fun h => by cases h⟩
set_option maxRecDepth 100000
theorem jfReplyBad0 : (Rows.replyBadRow.wf (OpenSpec.ofChange Rows.replyBadSpec)) = true := by kernel_rfl
theorem jfReplyBad1 : (laidOutB Tryd.prog) = true := by kernel_rfl
theorem jfReplyBad2 : (mapsRowed Tryd.prog) = true := by kernel_rfl
theorem jfReplyBad3 : (Tryd.f4.params.all (Tryd.prog.readableRec ·)) = true := by kernel_rfl
theorem jfReplyBad4 : (namedTie Tryd.prog Rows.replyBadRow.named Rows.replyBadSpec.vars) = true := by kernel_rfl
theorem jfReplyBad5 : ((Rows.replyBadRow.stops == [])) = true := by kernel_rfl
theorem jfReplyBad6 : ((Tryd.prog.stops == [])) = true := by kernel_rfl
theorem jfReplyBad7 : ((Rows.replyBadRow.knobs == [])) = true := by kernel_rfl
theorem jfReplyBad8 : ((Tryd.prog.stopKnobs == [])) = true := by kernel_rfl
theorem jfReplyBad9 : ((Rows.replyBadRow.inPlace == Tryd.prog.inPlace 4)) = true := by kernel_rfl
theorem jfReplyBad10 : ((Rows.replyBadRow.unfollowed == Tryd.prog.unfollowed 4)) = true := by kernel_rfl
theorem jfReplyBad11 : ((Rows.replyBadRow.recurses == Tryd.prog.recurses 4)) = true := by kernel_rfl
theorem jfReplyBad12 : ((Rows.replyBadRow.named == Tryd.prog.varsNamed 4)) = true := by kernel_rfl
theorem jfReplyBad13 : ((Rows.replyBadRow.maps == (Tryd.f4.params.toList ++ Rows.replyBadSpec.plain.varTypes Tryd.prog).any (Tryd.prog.mapsRec ·))) = true := by kernel_rfl
theorem jfReplyBad14 : ((Rows.replyBadRow.ifaces == (Tryd.f4.params.toList ++ Rows.replyBadSpec.plain.varTypes Tryd.prog).any (Tryd.prog.ifacesRec ·))) = true := by kernel_rfl
theorem jfReplyBad15 : ((Rows.replyBadRow.mapsOut == Tryd.prog.mapsAmong Tryd.f4.resultTypes.toList)) = true := by kernel_rfl
theorem jfReplyBad16 : ((Rows.replyBadRow.loops == (Tryd.f4.params.toList ++ Rows.replyBadSpec.plain.varTypes Tryd.prog).any (Tryd.prog.loopsFrom ·))) = true := by kernel_rfl
theorem jfReplyBad17 : ((Rows.replyBadRow.wideKeys == (Tryd.f4.params.toList ++ Rows.replyBadSpec.plain.varTypes Tryd.prog ++ Tryd.f4.resultTypes.toList).any (Tryd.prog.wideKeysFrom ·))) = true := by kernel_rfl
theorem jfReplyBad18 : (Rows.replyBadSpec.vars.all (Tryd.prog.varReadable ·)) = true := by kernel_rfl
theorem jfReplyBad19 : (Tryd.f4.resultTypes.all (fun t => Tryd.prog.readableRec t && decide (t < Tryd.prog.types.size))) = true := by kernel_rfl
theorem jfReplyBad20 : ((Rows.replyBadRow.ifacesOut == Tryd.f4.resultTypes.toList.any (Tryd.prog.ifacesRec ·))) = true := by kernel_rfl
theorem jfReplyBad21 : ((Rows.replyBadRow.loopsOut == Tryd.f4.resultTypes.toList.any (Tryd.prog.loopsFrom ·))) = true := by kernel_rfl
theorem jfReplyBad22 : ((Rows.replyBadRow.plainKeys == Tryd.prog.plainKeys)) = true := by kernel_rfl
theorem jfReplyBad23 : (Rows.replyBadRow.shortTexts.isNone) = true := by kernel_rfl
theorem jfReplyBad24 : (Tryd.prog.stopsHeard) = true := by kernel_rfl
theorem jfReplyBad25 : (Tryd.prog.mayEnter) = true := by kernel_rfl
theorem jfReplyBad26 : ((Rows.replyBadRow.lifted == Tryd.prog.liftsFinal)) = true := by kernel_rfl
theorem jfReplyBad27 : ((Tryd.prog.make == some Rows.replyBadRow.make)) = true := by kernel_rfl
theorem jfReplyBad28 : ((Rows.replyBadRow.kinds == (if Rows.replyBadRow.domain.isEmpty then [] else Tryd.f4.params.toList.map fun t => match Tryd.prog.underlying t with | some (.int k) => some k | _ => none))) = true := by kernel_rfl
theorem jfReplyBad29 : ((Rows.replyBadRow.pinned == Rows.replyBadRow.pinnedBy)) = true := by kernel_rfl
theorem jfReplyBad30 : ((Rows.replyBadRow.veiled == (Tryd.f4.params.toList ++ Rows.replyBadSpec.plain.varTypes Tryd.prog ++ Tryd.f4.resultTypes.toList).any (Tryd.prog.veiledRec ·))) = true := by kernel_rfl
theorem jfReplyBad31 : (Rows.replyBadRow.veiledFits Tryd.prog Tryd.f4.params.toList (Tryd.f4.params.toList ++ Rows.replyBadSpec.plain.varTypes Tryd.prog ++ Tryd.f4.resultTypes.toList)) = true := by kernel_rfl
theorem jfReplyBad : joinedFacts Tryd.prog 4 Tryd.f4 Rows.replyBadSpec Rows.replyBadRow = true := by
  unfold joinedFacts
  simp only [Bool.and_eq_true]
  exact ⟨⟨⟨⟨⟨⟨⟨⟨⟨⟨⟨⟨⟨⟨⟨⟨⟨⟨⟨⟨⟨⟨⟨⟨⟨⟨⟨⟨⟨⟨⟨jfReplyBad0, jfReplyBad1⟩, jfReplyBad2⟩, jfReplyBad3⟩, jfReplyBad4⟩, jfReplyBad5⟩, jfReplyBad6⟩, jfReplyBad7⟩, jfReplyBad8⟩, jfReplyBad9⟩, jfReplyBad10⟩, jfReplyBad11⟩, jfReplyBad12⟩, jfReplyBad13⟩, jfReplyBad14⟩, jfReplyBad15⟩, jfReplyBad16⟩, jfReplyBad17⟩, jfReplyBad18⟩, jfReplyBad19⟩, jfReplyBad20⟩, jfReplyBad21⟩, jfReplyBad22⟩, jfReplyBad23⟩, jfReplyBad24⟩, jfReplyBad25⟩, jfReplyBad26⟩, jfReplyBad27⟩, jfReplyBad28⟩, jfReplyBad29⟩, jfReplyBad30⟩, jfReplyBad31⟩
theorem overReplyBad : Rows.replyBadRow.holds Tryd.pinned (OpenSpec.ofChange Rows.replyBadSpec) :=
  OpenClaim.holds_of_wide 4 Tryd.f4 rfl rfl rfl rfl rfl rfl rfl ⟨rfl, rfl, rfl, rfl, rfl⟩ rfl rfl rfl rfl rfl (by kernel_rfl) Tryd.func4 jfReplyBad
    (of_decide_eq_true (by kernel_rfl)) (by unfold Func.isWrapper; first | (rw [if_pos (by decide +kernel)]; kernel_rfl) | (rw [if_neg (by decide +kernel)]; exact ⟨rfl, rfl⟩))
    (fun os started H enc _ => liftedReplyBad os started H enc)
/-- The given statement: the card. -/
theorem ReplyBad_holds : Rows.ReplyBadCardSaid :=
  Claim7.holds_tied_plain_at .later [] [.data, .data, .data, .data, .sentinel, .sentinel, .pinned] true (true, "8621b3c558fc8430ed761eff9713f5722433eb2b533ffc2002dff6a3e0b31e5b") true overReplyBad (fun _ h => by cases h) (by kernel_rfl) (fun _ h => by cases h) replyBad_row_tie rfl ⟨rfl, rfl⟩ (by kernel_rfl) rfl
    (fun f fn hf hfn => by
      obtain rfl : f = 4 := Option.some.inj ((show Tryd.prog.funcNamed Rows.replyBadRow.func = some 4 by kernel_rfl).symm.trans hf) |>.symm
      obtain rfl : fn = Tryd.f4 := (Option.some.inj (Tryd.func4.symm.trans hfn)).symm
      exact ⟨by kernel_rfl, fun j t ht => by
        rw [Tryd.params4] at ht
        have hm : t ∈ [22] := by have := Array.mem_of_getElem? ht; simpa using this
        have hall : ([22].all fun u => !Tryd.prog.wantsStandIn u) = true := by kernel_rfl
        exact (show Tryd.prog.wantsStandIn t = false by simpa using List.all_eq_true.1 hall t hm)⟩)
    (by kernel_rfl)
end Go.Proofs.YtimpbfniegimaaaDoor
