/-
  ClientRuns: the row, out of the walk and the plain law; and its card.
-/
import Derived.Test.YtgjkjkmmgdbcoaaGreatDoorRows
import Derived.Test.YtgjkjkmmgdbcoaaGreatDoorCards
import Derived.Test.YtgjkjkmmgdbcoaaGreatDoorTie
import Derived.Test.YtgjkjkmmgdbcoaaGreatDoorZClientRuns6
import Derived.Lib.LaidTab
import Derived.Stop.LaidErr
import Derived.WalkKit
import Derived.ProofKit
import Derived.OpenShut
import Derived.ShutString
import Derived.ChangeOld
import Derived.Below
import Derived.LaidMore
import Derived.Lay
import Derived.SevenTiedAt
import Derived.Stop.Joined
namespace Go.Proofs.YtgjkjkmmgdbcoaaGreatDoor
open Go.ChangeShapes Go.WideShapes Go.ChangeAt Go.RowKit
open Go.ChangeMaps (open_string shut_string)
set_option linter.unusedVariables false
theorem ownClientRuns : ownKnob Tryz.prog.godebug = none := by kernel_rfl
theorem laidOutClientRuns : laidOutB Tryz.prog = true := by kernel_rfl
theorem plainLaidClientRuns : (Rows.clientRunsRow.laid.all fun x => x.2.handleName?.isNone) = true := by kernel_rfl
/-- What the variables that the walk reads hold when the call begins. -/
theorem globsClientRuns {W : World} (hsh : W.ShapedOpen Tryz.prog) (hL : laidMetH Tryz.prog Rows.clientRunsRow.laid W) : ∀ g cs, Go.Av.G g = some cs → Go.Av.Rel (Go.Av.Info.start W) W (Go.Av.gv cs) (.pointer (some ⟨g, 0, none⟩)) := by
  rw [MakeChecks.laidMetH_plain _ _ _ plainLaidClientRuns] at hL
  have x0 : ∃ m, W.cell? ⟨0, 0, none⟩ = some (.int .i64 m) := cell_of_shapedOpen_int (P := Tryz.prog) (g := 0) (t := 3) (zero := #[.int .i64 0]) hsh (of_decide_eq_true (by kernel_rfl)) (by kernel_rfl) rfl (by kernel_rfl) (by kernel_rfl) Tryz.underlying3
  have x1 : ∃ v, W.cell? ⟨1, 0, none⟩ = some v ∧ (v = .nilIface ∨ ∃ u y, v = .iface u y) := Go.Av.laid_iface (n := "strconv.ErrSyntax") (d := Rows.laid_strconv_ErrSyntax) hL (by simp [Rows.clientRunsRow]) (by kernel_rfl) (by kernel_rfl) Tryz.underlying76
  have x2 : ∃ v, W.cell? ⟨2, 0, none⟩ = some v ∧ (v = .nilIface ∨ ∃ u y, v = .iface u y) := Go.Av.laid_iface (n := "strconv.ErrRange") (d := Rows.laid_strconv_ErrRange) hL (by simp [Rows.clientRunsRow]) (by kernel_rfl) (by kernel_rfl) Tryz.underlying76
  have e5 : (Rows.laid_internal_strconv_uint64pow10 : DataW Unit) = Go.Lib.tabData .u64 Go.Lib.pow10Tab := by kernel_rfl
  have y5 := (laidMet.tail (laidMet.tail hL))
  have z5 : ∃ r, laidMet Tryz.prog (("internal/strconv.uint64pow10", Go.Lib.tabData .u64 Go.Lib.pow10Tab) :: r) W := by
    rw [← e5]
    exact ⟨_, y5⟩
  have x5 : Go.Lib.TabIs Tryz.prog W "internal/strconv.uint64pow10" .u64 Go.Lib.pow10Tab := by
    obtain ⟨r, h⟩ := z5
    exact Go.Lib.tabIs_of_head (g := 5) (t := 173) (e := 140) (n := 20) (by kernel_rfl) (by kernel_rfl) Tryz.underlying173 Tryz.underlying140 (by kernel_rfl) (by kernel_rfl) h
  intro g cs hG
  rcases g with _ | _ | _ | _ | _ | _ | g
  · obtain rfl := Option.some.inj hG
    obtain ⟨m, hm⟩ := x0
    exact Go.Av.rel_var hm (.anyk _ _)
  · obtain rfl := Option.some.inj hG
    obtain ⟨v, hv, hk⟩ := x1
    exact Go.Av.rel_var hv (Go.Av.rel_anyi hk)
  · obtain rfl := Option.some.inj hG
    obtain ⟨v, hv, hk⟩ := x2
    exact Go.Av.rel_var hv (Go.Av.rel_anyi hk)
  · simp [Go.Av.G] at hG
  · simp [Go.Av.G] at hG
  · obtain rfl := Option.some.inj hG
    have h := Go.Av.rel_tab (g := 5) (by kernel_rfl) x5
    simpa [Go.Lib.pow10Tab, Function.comp_def] using h
  · simp [Go.Av.G] at hG
set_option maxRecDepth 100000 in
theorem liftedClientRuns (os : Os) (started : os.Started) (H : Type) (enc : TypeId × Value → H) :
    ReturnsInHanded {} Tryz.checked os 3 .any (fun w args => (Rows.clientRunsSpec.pre enc Tryz.prog Tryz.f3 Rows.clientRunsRow.domain false w args ∧ laidMetH Tryz.prog Rows.clientRunsRow.laid w) ∧ sizedMet enc Tryz.prog Tryz.f3 (OpenSpec.ofChange Rows.clientRunsSpec) false w args)
      (Rows.clientRunsSpec.post enc Tryz.prog Tryz.f3 false true false false) := by
  refine Go.Av.returns_and_shaped (C := Tryz.checked) (X := fun w _ => laidMetH Tryz.prog Rows.clientRunsRow.laid w) (fun _ _ _ hh h => h.of_heap hh) ownClientRuns started (by kernel_rfl) Tryz.func3
    (ChangeSpec.witness_shaped (enc := enc) (C := Tryz.checked) (os := os) (X := fun w _ => laidMetH Tryz.prog Rows.clientRunsRow.laid w) false (World.laidAll Tryz.prog os Rows.clientRunsRow.laid) #[.agg #[.int .i64 0, .int .i64 0, .string ByteArray.empty, .string ByteArray.empty, .string ByteArray.empty, .slice none 0 0], .slice none 0 0] 8 (World.laidAll_os _ _ _)
      (World.shaped_of_ZipB (by kernel_rfl) (by kernel_rfl)) (by kernel_rfl) (by kernel_rfl) (by kernel_rfl)
      (by rw [MakeChecks.laidMetH_plain _ _ _ plainLaidClientRuns]; exact laidMet_laidAll _ (by kernel_rfl) (by kernel_rfl))) ?_
  intro W base args ds gs before hval0 hW hsh hL
  have hval : ∀ (j : Nat) t v, Tryz.f3.params[j]? = some t → args[j]? = some v → Value.okWide Tryz.prog W .any base t v := hval0
  have hW' := hW
  obtain ⟨p, q, hA0, hV, rfl, hfz, hnd⟩ := hW
  have hA : DataW.TrodAll enc Tryz.prog W 0 (fun _ => true) true Tryz.f3.params.toList args.toList ds p := hA0
  rw [Tryz.params3] at hA hval
  obtain ⟨v0, vs0, d0, ds0, p0, q0, hargs, rfl, rfl, h0, r0⟩ := trodAll_cons hA
  obtain ⟨v1, vs1, d1, ds1, p1, q1, rfl, rfl, rfl, h1, r1⟩ := trodAll_cons r0
  obtain ⟨rfl, rfl, rfl⟩ := trodAll_nil r1
  obtain rfl : args = #[v0, v1] := by cases args; simp_all
  obtain ⟨rfl, rfl⟩ := trodVars_none hV
  have k0 := h0
  have lt0 : ∀ x ∈ p0, x.block < W.heap.size := by obtain ⟨m, hm⟩ := k0; exact DataW.trod_lt m _ _ _ hm
  have k1 := h1
  have lt1 : ∀ x ∈ p1, x.block < W.heap.size := by obtain ⟨m, hm⟩ := k1; exact DataW.trod_lt m _ _ _ hm
  obtain ⟨z0, zp0, w0⟩ := Go.Av.open_agg (P := Tryz.prog) (w := W) Tryz.underlying24 (hval 0 24 v0 rfl rfl) h0 (Go.Av.opens_struct (tot := 6) Tryz.underlying24 (by kernel_rfl) (Go.Av.opensF_cons (k := 1) rfl (by kernel_rfl) (Go.Av.opens_int Tryz.underlying3) (Go.Av.opensF_cons (k := 1) rfl (by kernel_rfl) (Go.Av.opens_int Tryz.underlying3) (Go.Av.opensF_cons (k := 1) rfl (by kernel_rfl) (Go.Av.opens_str Tryz.underlying9) (Go.Av.opensF_cons (k := 1) rfl (by kernel_rfl) (Go.Av.opens_str Tryz.underlying9) (Go.Av.opensF_cons (k := 1) rfl (by kernel_rfl) (Go.Av.opens_str Tryz.underlying9) (Go.Av.opensF_cons (k := 1) rfl (by kernel_rfl) (Go.Av.opens_bytes Tryz.underlying22 Tryz.underlying5 (by kernel_rfl)) (Go.Av.opensF_nil (tot := 6)))))))))
  obtain ⟨a0_1, a0_2, a0_3, a0_4, a0_5, a0_6, _⟩ := z0
  obtain ⟨pa0_1, pa0_2, pa0_3, pa0_4, pa0_5, pa0_6, _⟩ := zp0
  obtain ⟨a1, len1, cap1, rfl⟩ := okWide_slice Tryz.underlying22 (hval 1 22 v1 rfl rfl)
  obtain ⟨l1, hl1, hm1, w1⟩ : ∃ l : List UInt8, l.length = len1 ∧ len1 ≤ maxLen ∧ Go.Av.Rel (Go.Av.Info.start W) W (Go.Av.slE Go.Av.Enc.byte l none) (.slice a1 len1 cap1) := by
    obtain ⟨fuel, hf⟩ := h1
    rcases open_ints Tryz.underlying22 Tryz.underlying5 (by kernel_rfl) hf with ⟨hcs, _⟩ | ⟨x, l, c, zs, hcs, _, hl, hm, hz, _, hcell, hwz⟩
    · simp [Value.cells] at hcs
      obtain ⟨rfl, rfl, rfl⟩ := hcs
      exact Go.Av.rel_bytes (.inl ⟨rfl, rfl, rfl, rfl⟩)
    · simp [Value.cells] at hcs
      obtain ⟨rfl, rfl, rfl⟩ := hcs
      exact Go.Av.rel_bytes (.inr ⟨_, rfl, hl, hm, by simpa using hz, hcell, hwz⟩)
  clear hA0 hval0
  refine (Go.Av.law_of (lS 2000000 (a0_1) (a0_2) (a0_3) (a0_4) (a0_5) (a0_6) (l1) none true (Go.Cl.ClientRuns_t (a0_1) (a0_2) (a0_3) (a0_4) (a0_5) (a0_6) (l1))) (Go.Av.RelL.cons w0 (Go.Av.RelL.cons w1 Go.Av.RelL.nil)) (globsClientRuns hsh hL)).mono fun e W' ⟨he, bel⟩ => ?_
  subst he
  exact ⟨_, rfl, _, _, _, [], _, [], hW', trodAll_mk1 (shut_bool Tryz.underlying4 _), (trodAll_cons_mk (Below.trod laidOutClientRuns (by kernel_rfl) (of_decide_eq_true (by kernel_rfl)) k0 bel lt0) (trodAll_cons_mk (Below.trod laidOutClientRuns (by kernel_rfl) (of_decide_eq_true (by kernel_rfl)) k1 bel lt1) trodAll_mk0)), rfl, bel.frame _, fun h => by cases h⟩
set_option maxRecDepth 100000
theorem jfClientRuns0 : (Rows.clientRunsRow.wf (OpenSpec.ofChange Rows.clientRunsSpec)) = true := by kernel_rfl
theorem jfClientRuns1 : (laidOutB Tryz.prog) = true := by kernel_rfl
theorem jfClientRuns2 : (mapsRowed Tryz.prog) = true := by kernel_rfl
theorem jfClientRuns3 : (Tryz.f3.params.all (Tryz.prog.readableRec ·)) = true := by kernel_rfl
theorem jfClientRuns4 : (namedTie Tryz.prog Rows.clientRunsRow.named Rows.clientRunsSpec.vars) = true := by kernel_rfl
theorem jfClientRuns5 : ((Rows.clientRunsRow.stops == [])) = true := by kernel_rfl
theorem jfClientRuns6 : ((Tryz.prog.stops == [])) = true := by kernel_rfl
theorem jfClientRuns7 : ((Rows.clientRunsRow.knobs == [])) = true := by kernel_rfl
theorem jfClientRuns8 : ((Tryz.prog.stopKnobs == [])) = true := by kernel_rfl
theorem jfClientRuns9 : ((Rows.clientRunsRow.inPlace == Tryz.prog.inPlace 3)) = true := by kernel_rfl
theorem jfClientRuns10 : ((Rows.clientRunsRow.unfollowed == Tryz.prog.unfollowed 3)) = true := by kernel_rfl
theorem jfClientRuns11 : ((Rows.clientRunsRow.recurses == Tryz.prog.recurses 3)) = true := by kernel_rfl
theorem jfClientRuns12 : ((Rows.clientRunsRow.named == Tryz.prog.varsNamed 3)) = true := by kernel_rfl
theorem jfClientRuns13 : ((Rows.clientRunsRow.maps == (Tryz.f3.params.toList ++ Rows.clientRunsSpec.plain.varTypes Tryz.prog).any (Tryz.prog.mapsRec ·))) = true := by kernel_rfl
theorem jfClientRuns14 : ((Rows.clientRunsRow.ifaces == (Tryz.f3.params.toList ++ Rows.clientRunsSpec.plain.varTypes Tryz.prog).any (Tryz.prog.ifacesRec ·))) = true := by kernel_rfl
theorem jfClientRuns15 : ((Rows.clientRunsRow.mapsOut == Tryz.prog.mapsAmong Tryz.f3.resultTypes.toList)) = true := by kernel_rfl
theorem jfClientRuns16 : ((Rows.clientRunsRow.loops == (Tryz.f3.params.toList ++ Rows.clientRunsSpec.plain.varTypes Tryz.prog).any (Tryz.prog.loopsFrom ·))) = true := by kernel_rfl
theorem jfClientRuns17 : ((Rows.clientRunsRow.wideKeys == (Tryz.f3.params.toList ++ Rows.clientRunsSpec.plain.varTypes Tryz.prog ++ Tryz.f3.resultTypes.toList).any (Tryz.prog.wideKeysFrom ·))) = true := by kernel_rfl
theorem jfClientRuns18 : (Rows.clientRunsSpec.vars.all (Tryz.prog.varReadable ·)) = true := by kernel_rfl
theorem jfClientRuns19 : (Tryz.f3.resultTypes.all (fun t => Tryz.prog.readableRec t && decide (t < Tryz.prog.types.size))) = true := by kernel_rfl
theorem jfClientRuns20 : ((Rows.clientRunsRow.ifacesOut == Tryz.f3.resultTypes.toList.any (Tryz.prog.ifacesRec ·))) = true := by kernel_rfl
theorem jfClientRuns21 : ((Rows.clientRunsRow.loopsOut == Tryz.f3.resultTypes.toList.any (Tryz.prog.loopsFrom ·))) = true := by kernel_rfl
theorem jfClientRuns22 : ((Rows.clientRunsRow.plainKeys == Tryz.prog.plainKeys)) = true := by kernel_rfl
theorem jfClientRuns23 : (Rows.clientRunsRow.shortTexts.isNone) = true := by kernel_rfl
theorem jfClientRuns24 : (Tryz.prog.stopsHeard) = true := by kernel_rfl
theorem jfClientRuns25 : (Tryz.prog.mayEnter) = true := by kernel_rfl
theorem jfClientRuns26 : ((Rows.clientRunsRow.lifted == Tryz.prog.liftsFinal)) = true := by kernel_rfl
theorem jfClientRuns27 : ((Tryz.prog.make == some Rows.clientRunsRow.make)) = true := by kernel_rfl
theorem jfClientRuns28 : ((Rows.clientRunsRow.kinds == (if Rows.clientRunsRow.domain.isEmpty then [] else Tryz.f3.params.toList.map fun t => match Tryz.prog.underlying t with | some (.int k) => some k | _ => none))) = true := by kernel_rfl
theorem jfClientRuns29 : ((Rows.clientRunsRow.pinned == Rows.clientRunsRow.pinnedBy)) = true := by kernel_rfl
theorem jfClientRuns30 : ((Rows.clientRunsRow.veiled == (Tryz.f3.params.toList ++ Rows.clientRunsSpec.plain.varTypes Tryz.prog ++ Tryz.f3.resultTypes.toList).any (Tryz.prog.veiledRec ·))) = true := by kernel_rfl
theorem jfClientRuns31 : (Rows.clientRunsRow.veiledFits Tryz.prog Tryz.f3.params.toList (Tryz.f3.params.toList ++ Rows.clientRunsSpec.plain.varTypes Tryz.prog ++ Tryz.f3.resultTypes.toList)) = true := by kernel_rfl
theorem jfClientRuns : joinedFacts Tryz.prog 3 Tryz.f3 Rows.clientRunsSpec Rows.clientRunsRow = true := by
  unfold joinedFacts
  simp only [Bool.and_eq_true]
  exact ⟨⟨⟨⟨⟨⟨⟨⟨⟨⟨⟨⟨⟨⟨⟨⟨⟨⟨⟨⟨⟨⟨⟨⟨⟨⟨⟨⟨⟨⟨⟨jfClientRuns0, jfClientRuns1⟩, jfClientRuns2⟩, jfClientRuns3⟩, jfClientRuns4⟩, jfClientRuns5⟩, jfClientRuns6⟩, jfClientRuns7⟩, jfClientRuns8⟩, jfClientRuns9⟩, jfClientRuns10⟩, jfClientRuns11⟩, jfClientRuns12⟩, jfClientRuns13⟩, jfClientRuns14⟩, jfClientRuns15⟩, jfClientRuns16⟩, jfClientRuns17⟩, jfClientRuns18⟩, jfClientRuns19⟩, jfClientRuns20⟩, jfClientRuns21⟩, jfClientRuns22⟩, jfClientRuns23⟩, jfClientRuns24⟩, jfClientRuns25⟩, jfClientRuns26⟩, jfClientRuns27⟩, jfClientRuns28⟩, jfClientRuns29⟩, jfClientRuns30⟩, jfClientRuns31⟩
theorem overClientRuns : Rows.clientRunsRow.holds Tryz.pinned (OpenSpec.ofChange Rows.clientRunsSpec) :=
  OpenClaim.holds_of_wide 3 Tryz.f3 rfl rfl rfl rfl rfl rfl rfl ⟨rfl, rfl, rfl, rfl, rfl⟩ rfl rfl rfl rfl rfl (by kernel_rfl) Tryz.func3 jfClientRuns
    (of_decide_eq_true (by kernel_rfl)) (by unfold Func.isWrapper; first | (rw [if_pos (by decide +kernel)]; kernel_rfl) | (rw [if_neg (by decide +kernel)]; exact ⟨rfl, rfl⟩))
    (fun os started H enc _ => liftedClientRuns os started H enc)
/-- The given statement: the card. -/
theorem ClientRuns_holds : Rows.ClientRunsCardSaid :=
  Claim7.holds_tied_plain_at .later [] [.data, .data, .data, .data, .sentinel, .sentinel, .pinned] true (true, "200425297b6fefbf121aecdde5f7e44e7ea82aafe0221b1ae02ba29ca9635da4") true overClientRuns (fun _ h => by cases h) (by kernel_rfl) (fun _ h => by cases h) clientRuns_row_tie rfl ⟨rfl, rfl⟩ (by kernel_rfl) rfl
    (fun f fn hf hfn => by
      obtain rfl : f = 3 := Option.some.inj ((show Tryz.prog.funcNamed Rows.clientRunsRow.func = some 3 by kernel_rfl).symm.trans hf) |>.symm
      obtain rfl : fn = Tryz.f3 := (Option.some.inj (Tryz.func3.symm.trans hfn)).symm
      exact ⟨by kernel_rfl, fun j t ht => by
        rw [Tryz.params3] at ht
        have hm : t ∈ [24, 22] := by have := Array.mem_of_getElem? ht; simpa using this
        have hall : ([24, 22].all fun u => !Tryz.prog.wantsStandIn u) = true := by kernel_rfl
        exact (show Tryz.prog.wantsStandIn t = false by simpa using List.all_eq_true.1 hall t hm)⟩)
    (by kernel_rfl)
end Go.Proofs.YtgjkjkmmgdbcoaaGreatDoor
