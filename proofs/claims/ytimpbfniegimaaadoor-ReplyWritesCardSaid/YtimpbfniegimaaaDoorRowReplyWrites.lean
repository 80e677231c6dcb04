/-
  ReplyWrites: the row, out of the walk and the plain law; and its card.
-/
import Derived.Test.YtimpbfniegimaaaDoorRows
import Derived.Test.YtimpbfniegimaaaDoorCards
import Derived.Test.YtimpbfniegimaaaDoorTie
import Derived.Test.YtimpbfniegimaaaDoorZReplyWrites4
import Derived.Lib.LaidTab
import Derived.Stop.LaidErr
import Derived.WalkKit
import Derived.ProofKit
import Derived.OpenShut
import Derived.ShutString
import Derived.ChangeOld
import Derived.Below
import Derived.LaidMore
import Derived.Lay
import Derived.SevenTiedAt
import Derived.Stop.Joined
namespace Go.Proofs.YtimpbfniegimaaaDoor
open Go.ChangeShapes Go.WideShapes Go.ChangeAt Go.RowKit
open Go.ChangeMaps (open_string shut_string)
set_option linter.unusedVariables false
theorem ownReplyWrites : ownKnob Tryd.prog.godebug = none := by kernel_rfl
theorem laidOutReplyWrites : laidOutB Tryd.prog = true := by kernel_rfl
theorem plainLaidReplyWrites : (Rows.replyWritesRow.laid.all fun x => x.2.handleName?.isNone) = true := by kernel_rfl
/-- What the variables that the walk reads hold when the call begins. -/
theorem globsReplyWrites {W : World} (hsh : W.ShapedOpen Tryd.prog) (hL : laidMetH Tryd.prog Rows.replyWritesRow.laid W) : ∀ g cs, Go.Av.G g = some cs → Go.Av.Rel (Go.Av.Info.start W) W (Go.Av.gv cs) (.pointer (some ⟨g, 0, none⟩)) := by
  rw [MakeChecks.laidMetH_plain _ _ _ plainLaidReplyWrites] at hL
  have x0 : ∃ m, W.cell? ⟨0, 0, none⟩ = some (.int .i64 m) := cell_of_shapedOpen_int (P := Tryd.prog) (g := 0) (t := 3) (zero := #[.int .i64 0]) hsh (of_decide_eq_true (by kernel_rfl)) (by kernel_rfl) rfl (by kernel_rfl) (by kernel_rfl) Tryd.underlying3
  have e1 : (Rows.laid_internal_strconv_uint64pow10 : DataW Unit) = Go.Lib.tabData .u64 Go.Lib.pow10Tab := by kernel_rfl
  have y1 := (laidMet.tail (laidMet.tail hL))
  have z1 : ∃ r, laidMet Tryd.prog (("internal/strconv.uint64pow10", Go.Lib.tabData .u64 Go.Lib.pow10Tab) :: r) W := by
    rw [← e1]
    exact ⟨_, y1⟩
  have x1 : Go.Lib.TabIs Tryd.prog W "internal/strconv.uint64pow10" .u64 Go.Lib.pow10Tab := by
    obtain ⟨r, h⟩ := z1
    exact Go.Lib.tabIs_of_head (g := 1) (t := 115) (e := 97) (n := 20) (by kernel_rfl) (by kernel_rfl) Tryd.underlying115 Tryd.underlying97 (by kernel_rfl) (by kernel_rfl) h
  have x2 : ∃ v, W.cell? ⟨2, 0, none⟩ = some v ∧ (v = .nilIface ∨ ∃ u y, v = .iface u y) := Go.Av.laid_iface (n := "strconv.ErrSyntax") (d := Rows.laid_strconv_ErrSyntax) hL (by simp [Rows.replyWritesRow]) (by kernel_rfl) (by kernel_rfl) Tryd.underlying81
  have x3 : ∃ v, W.cell? ⟨3, 0, none⟩ = some v ∧ (v = .nilIface ∨ ∃ u y, v = .iface u y) := Go.Av.laid_iface (n := "strconv.ErrRange") (d := Rows.laid_strconv_ErrRange) hL (by simp [Rows.replyWritesRow]) (by kernel_rfl) (by kernel_rfl) Tryd.underlying81
  intro g cs hG
  rcases g with _ | _ | _ | _ | g
  · obtain rfl := Option.some.inj hG
    obtain ⟨m, hm⟩ := x0
    exact Go.Av.rel_var hm (.anyk _ _)
  · obtain rfl := Option.some.inj hG
    have h := Go.Av.rel_tab (g := 1) (by kernel_rfl) x1
    simpa [Go.Lib.pow10Tab, Function.comp_def] using h
  · obtain rfl := Option.some.inj hG
    obtain ⟨v, hv, hk⟩ := x2
    exact Go.Av.rel_var hv (Go.Av.rel_anyi hk)
  · obtain rfl := Option.some.inj hG
    obtain ⟨v, hv, hk⟩ := x3
    exact Go.Av.rel_var hv (Go.Av.rel_anyi hk)
  · simp [Go.Av.G] at hG
set_option maxRecDepth 100000 in
theorem liftedReplyWrites (os : Os) (started : os.Started) (H : Type) (enc : TypeId × Value → H) :
    ReturnsInHanded {} Tryd.checked os 5 .any (fun w args => (Rows.replyWritesSpec.pre enc Tryd.prog Tryd.f5 Rows.replyWritesRow.domain false w args ∧ laidMetH Tryd.prog Rows.replyWritesRow.laid w) ∧ sizedMet enc Tryd.prog Tryd.f5 (OpenSpec.ofChange Rows.replyWritesSpec) false w args)
      (Rows.replyWritesSpec.post enc Tryd.prog Tryd.f5 false true false false) := by
  refine Go.Av.returns_and_shaped (C := Tryd.checked) (X := fun w _ => laidMetH Tryd.prog Rows.replyWritesRow.laid w) (fun _ _ _ hh h => h.of_heap hh) ownReplyWrites started (by kernel_rfl) Tryd.func5
    (ChangeSpec.witness_shaped (enc := enc) (C := Tryd.checked) (os := os) (X := fun w _ => laidMetH Tryd.prog Rows.replyWritesRow.laid w) false (World.laidAll Tryd.prog os Rows.replyWritesRow.laid) #[.agg #[.int .i64 0, .slice none 0 0, .int .i64 0, .int .i64 0, .int .i64 0], .slice none 0 0] 8 (World.laidAll_os _ _ _)
      (World.shaped_of_ZipB (by kernel_rfl) (by kernel_rfl)) (by kernel_rfl) (by kernel_rfl) (by kernel_rfl)
      (by rw [MakeChecks.laidMetH_plain _ _ _ plainLaidReplyWrites]; exact laidMet_laidAll _ (by kernel_rfl) (by kernel_rfl))) ?_
  intro W base args ds gs before hval0 hW hsh hL
  have hval : ∀ (j : Nat) t v, Tryd.f5.params[j]? = some t → args[j]? = some v → Value.okWide Tryd.prog W .any base t v := hval0
  have hW' := hW
  obtain ⟨p, q, hA0, hV, rfl, hfz, hnd⟩ := hW
  have hA : DataW.TrodAll enc Tryd.prog W 0 (fun _ => true) true Tryd.f5.params.toList args.toList ds p := hA0
  rw [Tryd.params5] at hA hval
  obtain ⟨v0, vs0, d0, ds0, p0, q0, hargs, rfl, rfl, h0, r0⟩ := trodAll_cons hA
  obtain ⟨v1, vs1, d1, ds1, p1, q1, rfl, rfl, rfl, h1, r1⟩ := trodAll_cons r0
  obtain ⟨rfl, rfl, rfl⟩ := trodAll_nil r1
  obtain rfl : args = #[v0, v1] := by cases args; simp_all
  obtain ⟨rfl, rfl⟩ := trodVars_none hV
  have k0 := h0
  have lt0 : ∀ x ∈ p0, x.block < W.heap.size := by obtain ⟨m, hm⟩ := k0; exact DataW.trod_lt m _ _ _ hm
  have k1 := h1
  have lt1 : ∀ x ∈ p1, x.block < W.heap.size := by obtain ⟨m, hm⟩ := k1; exact DataW.trod_lt m _ _ _ hm
  obtain ⟨z0, zp0, w0⟩ := Go.Av.open_agg (P := Tryd.prog) (w := W) Tryd.underlying38 (hval 0 38 v0 rfl rfl) h0 (Go.Av.opens_struct (tot := 5) Tryd.underlying38 (by kernel_rfl) (Go.Av.opensF_cons (k := 1) rfl (by kernel_rfl) (Go.Av.opens_int Tryd.underlying3) (Go.Av.opensF_cons (k := 1) rfl (by kernel_rfl) (Go.Av.opens_strs Tryd.underlying35 Tryd.underlying9 (by kernel_rfl)) (Go.Av.opensF_cons (k := 3) rfl (by kernel_rfl) (Go.Av.opens_array (m := 3) (c := 1) Tryd.underlying36 (by kernel_rfl) (by kernel_rfl) (Go.Av.opens_int Tryd.underlying3)) (Go.Av.opensF_nil (tot := 5))))))
  obtain ⟨a0_1, a0_2, a0_3, _⟩ := z0
  obtain ⟨pa0_1, pa0_2, pa0_3, _⟩ := zp0
  obtain ⟨pa0_3l, pa0_3e⟩ := pa0_3
  obtain ⟨a0_4, a0_3_r0, rfl, pa0_3l0⟩ := Go.Av.len_cons pa0_3l
  obtain ⟨a0_5, a0_3_r1, rfl, pa0_3l1⟩ := Go.Av.len_cons pa0_3l0
  obtain ⟨a0_6, a0_3_r2, rfl, pa0_3l2⟩ := Go.Av.len_cons pa0_3l1
  obtain rfl := Go.Av.len_nil pa0_3l2
  have pa0_4 := pa0_3e a0_4 (by simp)
  have pa0_5 := pa0_3e a0_5 (by simp)
  have pa0_6 := pa0_3e a0_6 (by simp)
  obtain ⟨a1, len1, cap1, rfl⟩ := okWide_slice Tryd.underlying22 (hval 1 22 v1 rfl rfl)
  obtain ⟨l1, hl1, hm1, w1⟩ : ∃ l : List UInt8, l.length = len1 ∧ len1 ≤ maxLen ∧ Go.Av.Rel (Go.Av.Info.start W) W (Go.Av.slE Go.Av.Enc.byte l none) (.slice a1 len1 cap1) := by
    obtain ⟨fuel, hf⟩ := h1
    rcases open_ints Tryd.underlying22 Tryd.underlying5 (by kernel_rfl) hf with ⟨hcs, _⟩ | ⟨x, l, c, zs, hcs, _, hl, hm, hz, _, hcell, hwz⟩
    · simp [Value.cells] at hcs
      obtain ⟨rfl, rfl, rfl⟩ := hcs
      exact Go.Av.rel_bytes (.inl ⟨rfl, rfl, rfl, rfl⟩)
    · simp [Value.cells] at hcs
      obtain ⟨rfl, rfl, rfl⟩ := hcs
      exact Go.Av.rel_bytes (.inr ⟨_, rfl, hl, hm, by simpa using hz, hcell, hwz⟩)
  clear hA0 hval0
  refine (Go.Av.law_of (iW 2000000 (a0_1) (a0_2) (a0_4) (a0_5) (a0_6) (l1) none true (Go.Rp.ReplyWrites_t (a0_1) (a0_2) (a0_4) (a0_5) (a0_6) (l1))) (Go.Av.RelL.cons w0 (Go.Av.RelL.cons w1 Go.Av.RelL.nil)) (globsReplyWrites hsh hL)).mono fun e W' ⟨he, bel⟩ => ?_
  subst he
  exact ⟨_, rfl, _, _, _, [], _, [], hW', trodAll_mk1 (shut_bool Tryd.underlying4 _), (trodAll_cons_mk (Below.trod laidOutReplyWrites (by kernel_rfl) (of_decide_eq_true (by kernel_rfl)) k0 bel lt0) (trodAll_cons_mk (Below.trod laidOutReplyWrites (by kernel_rfl) (of_decide_eq_true (by kernel_rfl)) k1 bel lt1) trodAll_mk0)), rfl, bel.frame _, fun h => by cases h⟩
set_option maxRecDepth 100000
theorem jfReplyWrites0 : (Rows.replyWritesRow.wf (OpenSpec.ofChange Rows.replyWritesSpec)) = true := by kernel_rfl
theorem jfReplyWrites1 : (laidOutB Tryd.prog) = true := by kernel_rfl
theorem jfReplyWrites2 : (mapsRowed Tryd.prog) = true := by kernel_rfl
theorem jfReplyWrites3 : (Tryd.f5.params.all (Tryd.prog.readableRec ·)) = true := by kernel_rfl
theorem jfReplyWrites4 : (namedTie Tryd.prog Rows.replyWritesRow.named Rows.replyWritesSpec.vars) = true := by kernel_rfl
theorem jfReplyWrites5 : ((Rows.replyWritesRow.stops == [])) = true := by kernel_rfl
theorem jfReplyWrites6 : ((Tryd.prog.stops == [])) = true := by kernel_rfl
theorem jfReplyWrites7 : ((Rows.replyWritesRow.knobs == [])) = true := by kernel_rfl
theorem jfReplyWrites8 : ((Tryd.prog.stopKnobs == [])) = true := by kernel_rfl
theorem jfReplyWrites9 : ((Rows.replyWritesRow.inPlace == Tryd.prog.inPlace 5)) = true := by kernel_rfl
theorem jfReplyWrites10 : ((Rows.replyWritesRow.unfollowed == Tryd.prog.unfollowed 5)) = true := by kernel_rfl
theorem jfReplyWrites11 : ((Rows.replyWritesRow.recurses == Tryd.prog.recurses 5)) = true := by kernel_rfl
theorem jfReplyWrites12 : ((Rows.replyWritesRow.named == Tryd.prog.varsNamed 5)) = true := by kernel_rfl
theorem jfReplyWrites13 : ((Rows.replyWritesRow.maps == (Tryd.f5.params.toList ++ Rows.replyWritesSpec.plain.varTypes Tryd.prog).any (Tryd.prog.mapsRec ·))) = true := by kernel_rfl
theorem jfReplyWrites14 : ((Rows.replyWritesRow.ifaces == (Tryd.f5.params.toList ++ Rows.replyWritesSpec.plain.varTypes Tryd.prog).any (Tryd.prog.ifacesRec ·))) = true := by kernel_rfl
theorem jfReplyWrites15 : ((Rows.replyWritesRow.mapsOut == Tryd.prog.mapsAmong Tryd.f5.resultTypes.toList)) = true := by kernel_rfl
theorem jfReplyWrites16 : ((Rows.replyWritesRow.loops == (Tryd.f5.params.toList ++ Rows.replyWritesSpec.plain.varTypes Tryd.prog).any (Tryd.prog.loopsFrom ·))) = true := by kernel_rfl
theorem jfReplyWrites17 : ((Rows.replyWritesRow.wideKeys == (Tryd.f5.params.toList ++ Rows.replyWritesSpec.plain.varTypes Tryd.prog ++ Tryd.f5.resultTypes.toList).any (Tryd.prog.wideKeysFrom ·))) = true := by kernel_rfl
theorem jfReplyWrites18 : (Rows.replyWritesSpec.vars.all (Tryd.prog.varReadable ·)) = true := by kernel_rfl
theorem jfReplyWrites19 : (Tryd.f5.resultTypes.all (fun t => Tryd.prog.readableRec t && decide (t < Tryd.prog.types.size))) = true := by kernel_rfl
theorem jfReplyWrites20 : ((Rows.replyWritesRow.ifacesOut == Tryd.f5.resultTypes.toList.any (Tryd.prog.ifacesRec ·))) = true := by kernel_rfl
theorem jfReplyWrites21 : ((Rows.replyWritesRow.loopsOut == Tryd.f5.resultTypes.toList.any (Tryd.prog.loopsFrom ·))) = true := by kernel_rfl
theorem jfReplyWrites22 : ((Rows.replyWritesRow.plainKeys == Tryd.prog.plainKeys)) = true := by kernel_rfl
theorem jfReplyWrites23 : (Rows.replyWritesRow.shortTexts.isNone) = true := by kernel_rfl
theorem jfReplyWrites24 : (Tryd.prog.stopsHeard) = true := by kernel_rfl
theorem jfReplyWrites25 : (Tryd.prog.mayEnter) = true := by kernel_rfl
theorem jfReplyWrites26 : ((Rows.replyWritesRow.lifted == Tryd.prog.liftsFinal)) = true := by kernel_rfl
theorem jfReplyWrites27 : ((Tryd.prog.make == some Rows.replyWritesRow.make)) = true := by kernel_rfl
theorem jfReplyWrites28 : ((Rows.replyWritesRow.kinds == (if Rows.replyWritesRow.domain.isEmpty then [] else Tryd.f5.params.toList.map fun t => match Tryd.prog.underlying t with | some (.int k) => some k | _ => none))) = true := by kernel_rfl
theorem jfReplyWrites29 : ((Rows.replyWritesRow.pinned == Rows.replyWritesRow.pinnedBy)) = true := by kernel_rfl
theorem jfReplyWrites30 : ((Rows.replyWritesRow.veiled == (Tryd.f5.params.toList ++ Rows.replyWritesSpec.plain.varTypes Tryd.prog ++ Tryd.f5.resultTypes.toList).any (Tryd.prog.veiledRec ·))) = true := by kernel_rfl
theorem jfReplyWrites31 : (Rows.replyWritesRow.veiledFits Tryd.prog Tryd.f5.params.toList (Tryd.f5.params.toList ++ Rows.replyWritesSpec.plain.varTypes Tryd.prog ++ Tryd.f5.resultTypes.toList)) = true := by kernel_rfl
theorem jfReplyWrites : joinedFacts Tryd.prog 5 Tryd.f5 Rows.replyWritesSpec Rows.replyWritesRow = true := by
  unfold joinedFacts
  simp only [Bool.and_eq_true]
  exact ⟨⟨⟨⟨⟨⟨⟨⟨⟨⟨⟨⟨⟨⟨⟨⟨⟨⟨⟨⟨⟨⟨⟨⟨⟨⟨⟨⟨⟨⟨⟨jfReplyWrites0, jfReplyWrites1⟩, jfReplyWrites2⟩, jfReplyWrites3⟩, jfReplyWrites4⟩, jfReplyWrites5⟩, jfReplyWrites6⟩, jfReplyWrites7⟩, jfReplyWrites8⟩, jfReplyWrites9⟩, jfReplyWrites10⟩, jfReplyWrites11⟩, jfReplyWrites12⟩, jfReplyWrites13⟩, jfReplyWrites14⟩, jfReplyWrites15⟩, jfReplyWrites16⟩, jfReplyWrites17⟩, jfReplyWrites18⟩, jfReplyWrites19⟩, jfReplyWrites20⟩, jfReplyWrites21⟩, jfReplyWrites22⟩, jfReplyWrites23⟩, jfReplyWrites24⟩, jfReplyWrites25⟩, jfReplyWrites26⟩, jfReplyWrites27⟩, jfReplyWrites28⟩, jfReplyWrites29⟩, jfReplyWrites30⟩, jfReplyWrites31⟩
theorem overReplyWrites : Rows.replyWritesRow.holds Tryd.pinned (OpenSpec.ofChange Rows.replyWritesSpec) :=
  OpenClaim.holds_of_wide 5 Tryd.f5 rfl rfl rfl rfl rfl rfl rfl ⟨rfl, rfl, rfl, rfl, rfl⟩ rfl rfl rfl rfl rfl (by kernel_rfl) Tryd.func5 jfReplyWrites
    (of_decide_eq_true (by kernel_rfl)) (by unfold Func.isWrapper; first | (rw [if_pos (by decide +kernel)]; kernel_rfl) | (rw [if_neg (by decide +kernel)]; exact ⟨rfl, rfl⟩))
    (fun os started H enc _ => liftedReplyWrites os started H enc)
/-- The given statement: the card. -/
theorem ReplyWrites_holds : Rows.ReplyWritesCardSaid :=
  Claim7.holds_tied_plain_at .later [] [.data, .data, .data, .data, .sentinel, .sentinel, .pinned] true (true, "8621b3c558fc8430ed761eff9713f5722433eb2b533ffc2002dff6a3e0b31e5b") true overReplyWrites (fun _ h => by cases h) (by kernel_rfl) (fun _ h => by cases h) replyWrites_row_tie rfl ⟨rfl, rfl⟩ (by kernel_rfl) rfl
    (fun f fn hf hfn => by
      obtain rfl : f = 5 := Option.some.inj ((show Tryd.prog.funcNamed Rows.replyWritesRow.func = some 5 by kernel_rfl).symm.trans hf) |>.symm
      obtain rfl : fn = Tryd.f5 := (Option.some.inj (Tryd.func5.symm.trans hfn)).symm
      exact ⟨by kernel_rfl, fun j t ht => by
        rw [Tryd.params5] at ht
        have hm : t ∈ [38, 22] := by have := Array.mem_of_getElem? ht; simpa using this
        have hall : ([38, 22].all fun u => !Tryd.prog.wantsStandIn u) = true := by kernel_rfl
        exact (show Tryd.prog.wantsStandIn t = false by simpa using List.all_eq_true.1 hall t hm)⟩)
    (by kernel_rfl)
end Go.Proofs.YtimpbfniegimaaaDoor
