/-
  DigestSame: the row, out of the walk and the plain law; and its card.
-/
import Derived.Test.YtjegcifofddgbaaGreatDoorRows
import Derived.Test.YtjegcifofddgbaaGreatDoorCards
import Derived.Test.YtjegcifofddgbaaGreatDoorTie
import Derived.Test.YtjegcifofddgbaaGreatDoorZDigestSame6
import Derived.Lib.LaidTab
import Derived.Stop.LaidErr
import Derived.WalkKit
import Derived.ProofKit
import Derived.OpenShut
import Derived.ShutString
import Derived.ChangeOld
import Derived.Below
import Derived.LaidMore
import Derived.Lay
import Derived.SevenTiedAt
import Derived.Stop.Joined
namespace Go.Proofs.YtjegcifofddgbaaGreatDoor
open Go.ChangeShapes Go.WideShapes Go.ChangeAt Go.RowKit
open Go.ChangeMaps (open_string shut_string)
set_option linter.unusedVariables false
theorem ownDigestSame : ownKnob Tryz.prog.godebug = none := by kernel_rfl
theorem laidOutDigestSame : laidOutB Tryz.prog = true := by kernel_rfl
theorem plainLaidDigestSame : (Rows.digestSameRow.laid.all fun x => x.2.handleName?.isNone) = true := by kernel_rfl
/-- What the variables that the walk reads hold when the call begins. -/
theorem globsDigestSame {W : World} (hsh : W.ShapedOpen Tryz.prog) (hL : laidMetH Tryz.prog Rows.digestSameRow.laid W) : ∀ g cs, Go.Av.G g = some cs → Go.Av.Rel (Go.Av.Info.start W) W (Go.Av.gv cs) (.pointer (some ⟨g, 0, none⟩)) := by
  rw [MakeChecks.laidMetH_plain _ _ _ plainLaidDigestSame] at hL
  have x0 : ∃ m, W.cell? ⟨0, 0, none⟩ = some (.int .i64 m) := cell_of_shapedOpen_int (P := Tryz.prog) (g := 0) (t := 3) (zero := #[.int .i64 0]) hsh (of_decide_eq_true (by kernel_rfl)) (by kernel_rfl) rfl (by kernel_rfl) (by kernel_rfl) Tryz.underlying3
  have x1 : ∃ v, W.cell? ⟨1, 0, none⟩ = some v ∧ (v = .nilIface ∨ ∃ u y, v = .iface u y) := Go.Av.laid_iface (n := "strconv.ErrSyntax") (d := Rows.laid_strconv_ErrSyntax) hL (by simp [Rows.digestSameRow]) (by kernel_rfl) (by kernel_rfl) Tryz.underlying72
  have x2 : ∃ v, W.cell? ⟨2, 0, none⟩ = some v ∧ (v = .nilIface ∨ ∃ u y, v = .iface u y) := Go.Av.laid_iface (n := "strconv.ErrRange") (d := Rows.laid_strconv_ErrRange) hL (by simp [Rows.digestSameRow]) (by kernel_rfl) (by kernel_rfl) Tryz.underlying72
  have e3 : (Rows.laid_internal_strconv_uint64pow10 : DataW Unit) = Go.Lib.tabData .u64 Go.Lib.pow10Tab := by kernel_rfl
  have y3 := (laidMet.tail (laidMet.tail hL))
  have z3 : ∃ r, laidMet Tryz.prog (("internal/strconv.uint64pow10", Go.Lib.tabData .u64 Go.Lib.pow10Tab) :: r) W := by
    rw [← e3]
    exact ⟨_, y3⟩
  have x3 : Go.Lib.TabIs Tryz.prog W "internal/strconv.uint64pow10" .u64 Go.Lib.pow10Tab := by
    obtain ⟨r, h⟩ := z3
    exact Go.Lib.tabIs_of_head (g := 3) (t := 252) (e := 207) (n := 20) (by kernel_rfl) (by kernel_rfl) Tryz.underlying252 Tryz.underlying207 (by kernel_rfl) (by kernel_rfl) h
  intro g cs hG
  rcases g with _ | _ | _ | _ | g
  · obtain rfl := Option.some.inj hG
    obtain ⟨m, hm⟩ := x0
    exact Go.Av.rel_var hm (.anyk _ _)
  · obtain rfl := Option.some.inj hG
    obtain ⟨v, hv, hk⟩ := x1
    exact Go.Av.rel_var hv (Go.Av.rel_anyi hk)
  · obtain rfl := Option.some.inj hG
    obtain ⟨v, hv, hk⟩ := x2
    exact Go.Av.rel_var hv (Go.Av.rel_anyi hk)
  · obtain rfl := Option.some.inj hG
    have h := Go.Av.rel_tab (g := 3) (by kernel_rfl) x3
    simpa [Go.Lib.pow10Tab, Function.comp_def] using h
  · simp [Go.Av.G] at hG
set_option maxRecDepth 100000 in
theorem liftedDigestSame (os : Os) (started : os.Started) (H : Type) (enc : TypeId × Value → H) :
    ReturnsInHanded {} Tryz.checked os 8 .any (fun w args => (Rows.digestSameSpec.pre enc Tryz.prog Tryz.f8 Rows.digestSameRow.domain false w args ∧ laidMetH Tryz.prog Rows.digestSameRow.laid w) ∧ sizedMet enc Tryz.prog Tryz.f8 (OpenSpec.ofChange Rows.digestSameSpec) false w args)
      (Rows.digestSameSpec.post enc Tryz.prog Tryz.f8 false true false false) := by
  refine Go.Av.returns_and_shaped (C := Tryz.checked) (X := fun w _ => laidMetH Tryz.prog Rows.digestSameRow.laid w) (fun _ _ _ hh h => h.of_heap hh) ownDigestSame started (by kernel_rfl) Tryz.func8
    (ChangeSpec.witness_shaped (enc := enc) (C := Tryz.checked) (os := os) (X := fun w _ => laidMetH Tryz.prog Rows.digestSameRow.laid w) false (World.laidAll Tryz.prog os Rows.digestSameRow.laid) #[.slice none 0 0, .slice none 0 0] 8 (World.laidAll_os _ _ _)
      (World.shaped_of_ZipB (by kernel_rfl) (by kernel_rfl)) (by kernel_rfl) (by kernel_rfl) (by kernel_rfl)
      (by rw [MakeChecks.laidMetH_plain _ _ _ plainLaidDigestSame]; exact laidMet_laidAll _ (by kernel_rfl) (by kernel_rfl))) ?_
  intro W base args ds gs before hval0 hW hsh hL
  have hval : ∀ (j : Nat) t v, Tryz.f8.params[j]? = some t → args[j]? = some v → Value.okWide Tryz.prog W .any base t v := hval0
  have hW' := hW
  obtain ⟨p, q, hA0, hV, rfl, hfz, hnd⟩ := hW
  have hA : DataW.TrodAll enc Tryz.prog W 0 (fun _ => true) true Tryz.f8.params.toList args.toList ds p := hA0
  rw [Tryz.params8] at hA hval
  obtain ⟨v0, vs0, d0, ds0, p0, q0, hargs, rfl, rfl, h0, r0⟩ := trodAll_cons hA
  obtain ⟨v1, vs1, d1, ds1, p1, q1, rfl, rfl, rfl, h1, r1⟩ := trodAll_cons r0
  obtain ⟨rfl, rfl, rfl⟩ := trodAll_nil r1
  obtain rfl : args = #[v0, v1] := by cases args; simp_all
  obtain ⟨rfl, rfl⟩ := trodVars_none hV
  have k0 := h0
  have lt0 : ∀ x ∈ p0, x.block < W.heap.size := by obtain ⟨m, hm⟩ := k0; exact DataW.trod_lt m _ _ _ hm
  have k1 := h1
  have lt1 : ∀ x ∈ p1, x.block < W.heap.size := by obtain ⟨m, hm⟩ := k1; exact DataW.trod_lt m _ _ _ hm
  obtain ⟨a0, len0, cap0, rfl⟩ := okWide_slice Tryz.underlying22 (hval 0 22 v0 rfl rfl)
  obtain ⟨l0, _, w0⟩ := Go.Av.one_of (P := Tryz.prog) (w := W) rfl h0 (Go.Av.opens_slice (Go.Av.Enc.prod (Go.Av.Enc.int) (Go.Av.Enc.prod (Go.Av.Enc.int) (Go.Av.Enc.prod (Go.Av.Enc.str) (Go.Av.Enc.prod (Go.Av.Enc.str) (Go.Av.Enc.prod (Go.Av.Enc.str) (Go.Av.Enc.prod (Go.Av.Enc.str) (Go.Av.Enc.int))))))) (fun (x : (Int × Int × (List UInt8 × List UInt8 × List UInt8 × List UInt8 × Int × Unit) × Unit)) => (x.1, x.2.1, (x.2.2.1.1, x.2.2.1.2.1, x.2.2.1.2.2.1, x.2.2.1.2.2.2.1, x.2.2.1.2.2.2.2.1))) Tryz.underlying22 (by kernel_rfl) (Go.Av.opens_struct (tot := 7) Tryz.underlying29 (by kernel_rfl) (Go.Av.opensF_cons (k := 1) rfl (by kernel_rfl) (Go.Av.opens_int Tryz.underlying3) (Go.Av.opensF_cons (k := 1) rfl (by kernel_rfl) (Go.Av.opens_int Tryz.underlying3) (Go.Av.opensF_cons (k := 5) rfl (by kernel_rfl) (Go.Av.opens_struct (tot := 5) Tryz.underlying27 (by kernel_rfl) (Go.Av.opensF_cons (k := 1) rfl (by kernel_rfl) (Go.Av.opens_str Tryz.underlying9) (Go.Av.opensF_cons (k := 1) rfl (by kernel_rfl) (Go.Av.opens_str Tryz.underlying9) (Go.Av.opensF_cons (k := 1) rfl (by kernel_rfl) (Go.Av.opens_str Tryz.underlying9) (Go.Av.opensF_cons (k := 1) rfl (by kernel_rfl) (Go.Av.opens_str Tryz.underlying9) (Go.Av.opensF_cons (k := 1) rfl (by kernel_rfl) (Go.Av.opens_int Tryz.underlying3) (Go.Av.opensF_nil (tot := 5)))))))) (Go.Av.opensF_nil (tot := 7)))))) (fun _ => rfl))
  obtain ⟨a1, len1, cap1, rfl⟩ := okWide_slice Tryz.underlying22 (hval 1 22 v1 rfl rfl)
  obtain ⟨l1, _, w1⟩ := Go.Av.one_of (P := Tryz.prog) (w := W) rfl h1 (Go.Av.opens_slice (Go.Av.Enc.prod (Go.Av.Enc.int) (Go.Av.Enc.prod (Go.Av.Enc.int) (Go.Av.Enc.prod (Go.Av.Enc.str) (Go.Av.Enc.prod (Go.Av.Enc.str) (Go.Av.Enc.prod (Go.Av.Enc.str) (Go.Av.Enc.prod (Go.Av.Enc.str) (Go.Av.Enc.int))))))) (fun (x : (Int × Int × (List UInt8 × List UInt8 × List UInt8 × List UInt8 × Int × Unit) × Unit)) => (x.1, x.2.1, (x.2.2.1.1, x.2.2.1.2.1, x.2.2.1.2.2.1, x.2.2.1.2.2.2.1, x.2.2.1.2.2.2.2.1))) Tryz.underlying22 (by kernel_rfl) (Go.Av.opens_struct (tot := 7) Tryz.underlying29 (by kernel_rfl) (Go.Av.opensF_cons (k := 1) rfl (by kernel_rfl) (Go.Av.opens_int Tryz.underlying3) (Go.Av.opensF_cons (k := 1) rfl (by kernel_rfl) (Go.Av.opens_int Tryz.underlying3) (Go.Av.opensF_cons (k := 5) rfl (by kernel_rfl) (Go.Av.opens_struct (tot := 5) Tryz.underlying27 (by kernel_rfl) (Go.Av.opensF_cons (k := 1) rfl (by kernel_rfl) (Go.Av.opens_str Tryz.underlying9) (Go.Av.opensF_cons (k := 1) rfl (by kernel_rfl) (Go.Av.opens_str Tryz.underlying9) (Go.Av.opensF_cons (k := 1) rfl (by kernel_rfl) (Go.Av.opens_str Tryz.underlying9) (Go.Av.opensF_cons (k := 1) rfl (by kernel_rfl) (Go.Av.opens_str Tryz.underlying9) (Go.Av.opensF_cons (k := 1) rfl (by kernel_rfl) (Go.Av.opens_int Tryz.underlying3) (Go.Av.opensF_nil (tot := 5)))))))) (Go.Av.opensF_nil (tot := 7)))))) (fun _ => rfl))
  clear hA0 hval0
  refine (Go.Av.law_of (ni 100000 (l0) none (l1) none true (Go.Dg.DigestSame_h (l0) (l1))) (Go.Av.RelL.cons w0 (Go.Av.RelL.cons w1 Go.Av.RelL.nil)) (globsDigestSame hsh hL)).mono fun e W' ⟨he, bel⟩ => ?_
  subst he
  exact ⟨_, rfl, _, _, _, [], _, [], hW', trodAll_mk1 (shut_bool Tryz.underlying4 _), (trodAll_cons_mk (Below.trod laidOutDigestSame (by kernel_rfl) (of_decide_eq_true (by kernel_rfl)) k0 bel lt0) (trodAll_cons_mk (Below.trod laidOutDigestSame (by kernel_rfl) (of_decide_eq_true (by kernel_rfl)) k1 bel lt1) trodAll_mk0)), rfl, bel.frame _, fun h => by cases h⟩
set_option maxRecDepth 100000
theorem jfDigestSame0 : (Rows.digestSameRow.wf (OpenSpec.ofChange Rows.digestSameSpec)) = true := by kernel_rfl
theorem jfDigestSame1 : (laidOutB Tryz.prog) = true := by kernel_rfl
theorem jfDigestSame2 : (mapsRowed Tryz.prog) = true := by kernel_rfl
theorem jfDigestSame3 : (Tryz.f8.params.all (Tryz.prog.readableRec ·)) = true := by kernel_rfl
theorem jfDigestSame4 : (namedTie Tryz.prog Rows.digestSameRow.named Rows.digestSameSpec.vars) = true := by kernel_rfl
theorem jfDigestSame5 : ((Rows.digestSameRow.stops == [])) = true := by kernel_rfl
theorem jfDigestSame6 : ((Tryz.prog.stops == [])) = true := by kernel_rfl
theorem jfDigestSame7 : ((Rows.digestSameRow.knobs == [])) = true := by kernel_rfl
theorem jfDigestSame8 : ((Tryz.prog.stopKnobs == [])) = true := by kernel_rfl
theorem jfDigestSame9 : ((Rows.digestSameRow.inPlace == Tryz.prog.inPlace 8)) = true := by kernel_rfl
theorem jfDigestSame10 : ((Rows.digestSameRow.unfollowed == Tryz.prog.unfollowed 8)) = true := by kernel_rfl
theorem jfDigestSame11 : ((Rows.digestSameRow.recurses == Tryz.prog.recurses 8)) = true := by kernel_rfl
theorem jfDigestSame12 : ((Rows.digestSameRow.named == Tryz.prog.varsNamed 8)) = true := by kernel_rfl
theorem jfDigestSame13 : ((Rows.digestSameRow.maps == (Tryz.f8.params.toList ++ Rows.digestSameSpec.plain.varTypes Tryz.prog).any (Tryz.prog.mapsRec ·))) = true := by kernel_rfl
theorem jfDigestSame14 : ((Rows.digestSameRow.ifaces == (Tryz.f8.params.toList ++ Rows.digestSameSpec.plain.varTypes Tryz.prog).any (Tryz.prog.ifacesRec ·))) = true := by kernel_rfl
theorem jfDigestSame15 : ((Rows.digestSameRow.mapsOut == Tryz.prog.mapsAmong Tryz.f8.resultTypes.toList)) = true := by kernel_rfl
theorem jfDigestSame16 : ((Rows.digestSameRow.loops == (Tryz.f8.params.toList ++ Rows.digestSameSpec.plain.varTypes Tryz.prog).any (Tryz.prog.loopsFrom ·))) = true := by kernel_rfl
theorem jfDigestSame17 : ((Rows.digestSameRow.wideKeys == (Tryz.f8.params.toList ++ Rows.digestSameSpec.plain.varTypes Tryz.prog ++ Tryz.f8.resultTypes.toList).any (Tryz.prog.wideKeysFrom ·))) = true := by kernel_rfl
theorem jfDigestSame18 : (Rows.digestSameSpec.vars.all (Tryz.prog.varReadable ·)) = true := by kernel_rfl
theorem jfDigestSame19 : (Tryz.f8.resultTypes.all (fun t => Tryz.prog.readableRec t && decide (t < Tryz.prog.types.size))) = true := by kernel_rfl
theorem jfDigestSame20 : ((Rows.digestSameRow.ifacesOut == Tryz.f8.resultTypes.toList.any (Tryz.prog.ifacesRec ·))) = true := by kernel_rfl
theorem jfDigestSame21 : ((Rows.digestSameRow.loopsOut == Tryz.f8.resultTypes.toList.any (Tryz.prog.loopsFrom ·))) = true := by kernel_rfl
theorem jfDigestSame22 : ((Rows.digestSameRow.plainKeys == Tryz.prog.plainKeys)) = true := by kernel_rfl
theorem jfDigestSame23 : (Rows.digestSameRow.shortTexts.isNone) = true := by kernel_rfl
theorem jfDigestSame24 : (Tryz.prog.stopsHeard) = true := by kernel_rfl
theorem jfDigestSame25 : (Tryz.prog.mayEnter) = true := by kernel_rfl
theorem jfDigestSame26 : ((Rows.digestSameRow.lifted == Tryz.prog.liftsFinal)) = true := by kernel_rfl
theorem jfDigestSame27 : ((Tryz.prog.make == some Rows.digestSameRow.make)) = true := by kernel_rfl
theorem jfDigestSame28 : ((Rows.digestSameRow.kinds == (if Rows.digestSameRow.domain.isEmpty then [] else Tryz.f8.params.toList.map fun t => match Tryz.prog.underlying t with | some (.int k) => some k | _ => none))) = true := by kernel_rfl
theorem jfDigestSame29 : ((Rows.digestSameRow.pinned == Rows.digestSameRow.pinnedBy)) = true := by kernel_rfl
theorem jfDigestSame30 : ((Rows.digestSameRow.veiled == (Tryz.f8.params.toList ++ Rows.digestSameSpec.plain.varTypes Tryz.prog ++ Tryz.f8.resultTypes.toList).any (Tryz.prog.veiledRec ·))) = true := by kernel_rfl
theorem jfDigestSame31 : (Rows.digestSameRow.veiledFits Tryz.prog Tryz.f8.params.toList (Tryz.f8.params.toList ++ Rows.digestSameSpec.plain.varTypes Tryz.prog ++ Tryz.f8.resultTypes.toList)) = true := by kernel_rfl
theorem jfDigestSame : joinedFacts Tryz.prog 8 Tryz.f8 Rows.digestSameSpec Rows.digestSameRow = true := by
  unfold joinedFacts
  simp only [Bool.and_eq_true]
  exact ⟨⟨⟨⟨⟨⟨⟨⟨⟨⟨⟨⟨⟨⟨⟨⟨⟨⟨⟨⟨⟨⟨⟨⟨⟨⟨⟨⟨⟨⟨⟨jfDigestSame0, jfDigestSame1⟩, jfDigestSame2⟩, jfDigestSame3⟩, jfDigestSame4⟩, jfDigestSame5⟩, jfDigestSame6⟩, jfDigestSame7⟩, jfDigestSame8⟩, jfDigestSame9⟩, jfDigestSame10⟩, jfDigestSame11⟩, jfDigestSame12⟩, jfDigestSame13⟩, jfDigestSame14⟩, jfDigestSame15⟩, jfDigestSame16⟩, jfDigestSame17⟩, jfDigestSame18⟩, jfDigestSame19⟩, jfDigestSame20⟩, jfDigestSame21⟩, jfDigestSame22⟩, jfDigestSame23⟩, jfDigestSame24⟩, jfDigestSame25⟩, jfDigestSame26⟩, jfDigestSame27⟩, jfDigestSame28⟩, jfDigestSame29⟩, jfDigestSame30⟩, jfDigestSame31⟩
theorem overDigestSame : Rows.digestSameRow.holds Tryz.pinned (OpenSpec.ofChange Rows.digestSameSpec) :=
  OpenClaim.holds_of_wide 8 Tryz.f8 rfl rfl rfl rfl rfl rfl rfl ⟨rfl, rfl, rfl, rfl, rfl⟩ rfl rfl rfl rfl rfl (by kernel_rfl) Tryz.func8 jfDigestSame
    (of_decide_eq_true (by kernel_rfl)) (by unfold Func.isWrapper; first | (rw [if_pos (by decide +kernel)]; kernel_rfl) | (rw [if_neg (by decide +kernel)]; exact ⟨rfl, rfl⟩))
    (fun os started H enc _ => liftedDigestSame os started H enc)
/-- The given statement: the card. -/
theorem DigestSame_holds : Rows.DigestSameCardSaid :=
  Claim7.holds_tied_plain_at .later [] [.data, .data, .data, .data, .sentinel, .sentinel, .pinned] true (true, "8da639522ac604d306c47875f6d3ee4cb95d6385886ebea1e7b8e4339ca0bd46") true overDigestSame (fun _ h => by cases h) (by kernel_rfl) (fun _ h => by cases h) digestSame_row_tie rfl ⟨rfl, rfl⟩ (by kernel_rfl) rfl
    (fun f fn hf hfn => by
      obtain rfl : f = 8 := Option.some.inj ((show Tryz.prog.funcNamed Rows.digestSameRow.func = some 8 by kernel_rfl).symm.trans hf) |>.symm
      obtain rfl : fn = Tryz.f8 := (Option.some.inj (Tryz.func8.symm.trans hfn)).symm
      exact ⟨by kernel_rfl, fun j t ht => by
        rw [Tryz.params8] at ht
        have hm : t ∈ [22] := by have := Array.mem_of_getElem? ht; simpa using this
        have hall : ([22].all fun u => !Tryz.prog.wantsStandIn u) = true := by kernel_rfl
        exact (show Tryz.prog.wantsStandIn t = false by simpa using List.all_eq_true.1 hall t hm)⟩)
    (by kernel_rfl)
end Go.Proofs.YtjegcifofddgbaaGreatDoor
