/-
  ClientSteps: the row, out of the walk and the plain law; and its card.
-/
import Derived.Test.YtgjkjkmmgdbcoaaGreatDoorRows
import Derived.Test.YtgjkjkmmgdbcoaaGreatDoorCards
import Derived.Test.YtgjkjkmmgdbcoaaGreatDoorTie
import Derived.Test.YtgjkjkmmgdbcoaaGreatDoorZClientSteps5
import Derived.Lib.LaidTab
import Derived.Stop.LaidErr
import Derived.WalkKit
import Derived.ProofKit
import Derived.OpenShut
import Derived.ShutString
import Derived.ChangeOld
import Derived.Below
import Derived.LaidMore
import Derived.Lay
import Derived.SevenTiedAt
import Derived.Stop.Joined
namespace Go.Proofs.YtgjkjkmmgdbcoaaGreatDoor
open Go.ChangeShapes Go.WideShapes Go.ChangeAt Go.RowKit
open Go.ChangeMaps (open_string shut_string)
set_option linter.unusedVariables false
theorem ownClientSteps : ownKnob Tryz.prog.godebug = none := by kernel_rfl
theorem laidOutClientSteps : laidOutB Tryz.prog = true := by kernel_rfl
theorem plainLaidClientSteps : (Rows.clientStepsRow.laid.all fun x => x.2.handleName?.isNone) = true := by kernel_rfl
/-- What the variables that the walk reads hold when the call begins. -/
theorem globsClientSteps {W : World} (hsh : W.ShapedOpen Tryz.prog) (hL : laidMetH Tryz.prog Rows.clientStepsRow.laid W) : ∀ g cs, Go.Av.G g = some cs → Go.Av.Rel (Go.Av.Info.start W) W (Go.Av.gv cs) (.pointer (some ⟨g, 0, none⟩)) := by
  rw [MakeChecks.laidMetH_plain _ _ _ plainLaidClientSteps] at hL
  have x0 : ∃ m, W.cell? ⟨0, 0, none⟩ = some (.int .i64 m) := cell_of_shapedOpen_int (P := Tryz.prog) (g := 0) (t := 3) (zero := #[.int .i64 0]) hsh (of_decide_eq_true (by kernel_rfl)) (by kernel_rfl) rfl (by kernel_rfl) (by kernel_rfl) Tryz.underlying3
  have x1 : ∃ v, W.cell? ⟨1, 0, none⟩ = some v ∧ (v = .nilIface ∨ ∃ u y, v = .iface u y) := Go.Av.laid_iface (n := "strconv.ErrSyntax") (d := Rows.laid_strconv_ErrSyntax) hL (by simp [Rows.clientStepsRow]) (by kernel_rfl) (by kernel_rfl) Tryz.underlying76
  have x2 : ∃ v, W.cell? ⟨2, 0, none⟩ = some v ∧ (v = .nilIface ∨ ∃ u y, v = .iface u y) := Go.Av.laid_iface (n := "strconv.ErrRange") (d := Rows.laid_strconv_ErrRange) hL (by simp [Rows.clientStepsRow]) (by kernel_rfl) (by kernel_rfl) Tryz.underlying76
  have e5 : (Rows.laid_internal_strconv_uint64pow10 : DataW Unit) = Go.Lib.tabData .u64 Go.Lib.pow10Tab := by kernel_rfl
  have y5 := (laidMet.tail (laidMet.tail hL))
  have z5 : ∃ r, laidMet Tryz.prog (("internal/strconv.uint64pow10", Go.Lib.tabData .u64 Go.Lib.pow10Tab) :: r) W := by
    rw [← e5]
    exact ⟨_, y5⟩
  have x5 : Go.Lib.TabIs Tryz.prog W "internal/strconv.uint64pow10" .u64 Go.Lib.pow10Tab := by
    obtain ⟨r, h⟩ := z5
    exact Go.Lib.tabIs_of_head (g := 5) (t := 173) (e := 140) (n := 20) (by kernel_rfl) (by kernel_rfl) Tryz.underlying173 Tryz.underlying140 (by kernel_rfl) (by kernel_rfl) h
  intro g cs hG
  rcases g with _ | _ | _ | _ | _ | _ | g
  · obtain rfl := Option.some.inj hG
    obtain ⟨m, hm⟩ := x0
    exact Go.Av.rel_var hm (.anyk _ _)
  · obtain rfl := Option.some.inj hG
    obtain ⟨v, hv, hk⟩ := x1
    exact Go.Av.rel_var hv (Go.Av.rel_anyi hk)
  · obtain rfl := Option.some.inj hG
    obtain ⟨v, hv, hk⟩ := x2
    exact Go.Av.rel_var hv (Go.Av.rel_anyi hk)
  · simp [Go.Av.G] at hG
  · simp [Go.Av.G] at hG
  · obtain rfl := Option.some.inj hG
    have h := Go.Av.rel_tab (g := 5) (by kernel_rfl) x5
    simpa [Go.Lib.pow10Tab, Function.comp_def] using h
  · simp [Go.Av.G] at hG
set_option maxRecDepth 100000 in
theorem liftedClientSteps (os : Os) (started : os.Started) (H : Type) (enc : TypeId × Value → H) :
    ReturnsInHanded {} Tryz.checked os 8 .any (fun w args => (Rows.clientStepsSpec.pre enc Tryz.prog Tryz.f8 Rows.clientStepsRow.domain false w args ∧ laidMetH Tryz.prog Rows.clientStepsRow.laid w) ∧ sizedMet enc Tryz.prog Tryz.f8 (OpenSpec.ofChange Rows.clientStepsSpec) false w args)
      (Rows.clientStepsSpec.post enc Tryz.prog Tryz.f8 false true false false) := by
  refine Go.Av.returns_and_shaped (C := Tryz.checked) (X := fun w _ => laidMetH Tryz.prog Rows.clientStepsRow.laid w) (fun _ _ _ hh h => h.of_heap hh) ownClientSteps started (by kernel_rfl) Tryz.func8
    (ChangeSpec.witness_shaped (enc := enc) (C := Tryz.checked) (os := os) (X := fun w _ => laidMetH Tryz.prog Rows.clientStepsRow.laid w) false (World.laidAll Tryz.prog os Rows.clientStepsRow.laid) #[.agg #[.int .i64 0, .int .i64 0, .string ByteArray.empty, .string ByteArray.empty, .string ByteArray.empty, .slice none 0 0], .agg #[.int .i64 0, .slice none 0 0, .int .i64 0, .int .i64 0, .int .i64 0]] 8 (World.laidAll_os _ _ _)
      (World.shaped_of_ZipB (by kernel_rfl) (by kernel_rfl)) (by kernel_rfl) (by kernel_rfl) (by kernel_rfl)
      (by rw [MakeChecks.laidMetH_plain _ _ _ plainLaidClientSteps]; exact laidMet_laidAll _ (by kernel_rfl) (by kernel_rfl))) ?_
  intro W base args ds gs before hval0 hW hsh hL
  have hval : ∀ (j : Nat) t v, Tryz.f8.params[j]? = some t → args[j]? = some v → Value.okWide Tryz.prog W .any base t v := hval0
  have hW' := hW
  obtain ⟨p, q, hA0, hV, rfl, hfz, hnd⟩ := hW
  have hA : DataW.TrodAll enc Tryz.prog W 0 (fun _ => true) true Tryz.f8.params.toList args.toList ds p := hA0
  rw [Tryz.params8] at hA hval
  obtain ⟨v0, vs0, d0, ds0, p0, q0, hargs, rfl, rfl, h0, r0⟩ := trodAll_cons hA
  obtain ⟨v1, vs1, d1, ds1, p1, q1, rfl, rfl, rfl, h1, r1⟩ := trodAll_cons r0
  obtain ⟨rfl, rfl, rfl⟩ := trodAll_nil r1
  obtain rfl : args = #[v0, v1] := by cases args; simp_all
  obtain ⟨rfl, rfl⟩ := trodVars_none hV
  have k0 := h0
  have lt0 : ∀ x ∈ p0, x.block < W.heap.size := by obtain ⟨m, hm⟩ := k0; exact DataW.trod_lt m _ _ _ hm
  have k1 := h1
  have lt1 : ∀ x ∈ p1, x.block < W.heap.size := by obtain ⟨m, hm⟩ := k1; exact DataW.trod_lt m _ _ _ hm
  obtain ⟨z0, zp0, w0⟩ := Go.Av.open_agg (P := Tryz.prog) (w := W) Tryz.underlying24 (hval 0 24 v0 rfl rfl) h0 (Go.Av.opens_struct (tot := 6) Tryz.underlying24 (by kernel_rfl) (Go.Av.opensF_cons (k := 1) rfl (by kernel_rfl) (Go.Av.opens_int Tryz.underlying3) (Go.Av.opensF_cons (k := 1) rfl (by kernel_rfl) (Go.Av.opens_int Tryz.underlying3) (Go.Av.opensF_cons (k := 1) rfl (by kernel_rfl) (Go.Av.opens_str Tryz.underlying9) (Go.Av.opensF_cons (k := 1) rfl (by kernel_rfl) (Go.Av.opens_str Tryz.underlying9) (Go.Av.opensF_cons (k := 1) rfl (by kernel_rfl) (Go.Av.opens_str Tryz.underlying9) (Go.Av.opensF_cons (k := 1) rfl (by kernel_rfl) (Go.Av.opens_bytes Tryz.underlying22 Tryz.underlying5 (by kernel_rfl)) (Go.Av.opensF_nil (tot := 6)))))))))
  obtain ⟨a0_1, a0_2, a0_3, a0_4, a0_5, a0_6, _⟩ := z0
  obtain ⟨pa0_1, pa0_2, pa0_3, pa0_4, pa0_5, pa0_6, _⟩ := zp0
  obtain ⟨z1, zp1, w1⟩ := Go.Av.open_agg (P := Tryz.prog) (w := W) Tryz.underlying41 (hval 1 41 v1 rfl rfl) h1 (Go.Av.opens_struct (tot := 5) Tryz.underlying41 (by kernel_rfl) (Go.Av.opensF_cons (k := 1) rfl (by kernel_rfl) (Go.Av.opens_int Tryz.underlying3) (Go.Av.opensF_cons (k := 1) rfl (by kernel_rfl) (Go.Av.opens_strs Tryz.underlying38 Tryz.underlying9 (by kernel_rfl)) (Go.Av.opensF_cons (k := 3) rfl (by kernel_rfl) (Go.Av.opens_array (m := 3) (c := 1) Tryz.underlying39 (by kernel_rfl) (by kernel_rfl) (Go.Av.opens_int Tryz.underlying3)) (Go.Av.opensF_nil (tot := 5))))))
  obtain ⟨a1_1, a1_2, a1_3, _⟩ := z1
  obtain ⟨pa1_1, pa1_2, pa1_3, _⟩ := zp1
  obtain ⟨pa1_3l, pa1_3e⟩ := pa1_3
  obtain ⟨a1_4, a1_3_r0, rfl, pa1_3l0⟩ := Go.Av.len_cons pa1_3l
  obtain ⟨a1_5, a1_3_r1, rfl, pa1_3l1⟩ := Go.Av.len_cons pa1_3l0
  obtain ⟨a1_6, a1_3_r2, rfl, pa1_3l2⟩ := Go.Av.len_cons pa1_3l1
  obtain rfl := Go.Av.len_nil pa1_3l2
  have pa1_4 := pa1_3e a1_4 (by simp)
  have pa1_5 := pa1_3e a1_5 (by simp)
  have pa1_6 := pa1_3e a1_6 (by simp)
  clear hA0 hval0
  refine (Go.Av.law_of (jH 2000000 (a0_1) (a0_2) (a0_3) (a0_4) (a0_5) (a0_6) (a1_1) (a1_2) (a1_4) (a1_5) (a1_6) true (Go.Cl.ClientSteps_t (a0_1) (a0_2) (a0_3) (a0_4) (a0_5) (a0_6) (a1_1) (a1_2) (a1_4) (a1_5) (a1_6) pa1_1)) (Go.Av.RelL.cons w0 (Go.Av.RelL.cons w1 Go.Av.RelL.nil)) (globsClientSteps hsh hL)).mono fun e W' ⟨he, bel⟩ => ?_
  subst he
  exact ⟨_, rfl, _, _, _, [], _, [], hW', trodAll_mk1 (shut_bool Tryz.underlying4 _), (trodAll_cons_mk (Below.trod laidOutClientSteps (by kernel_rfl) (of_decide_eq_true (by kernel_rfl)) k0 bel lt0) (trodAll_cons_mk (Below.trod laidOutClientSteps (by kernel_rfl) (of_decide_eq_true (by kernel_rfl)) k1 bel lt1) trodAll_mk0)), rfl, bel.frame _, fun h => by cases h⟩
set_option maxRecDepth 100000
theorem jfClientSteps0 : (Rows.clientStepsRow.wf (OpenSpec.ofChange Rows.clientStepsSpec)) = true := by kernel_rfl
theorem jfClientSteps1 : (laidOutB Tryz.prog) = true := by kernel_rfl
theorem jfClientSteps2 : (mapsRowed Tryz.prog) = true := by kernel_rfl
theorem jfClientSteps3 : (Tryz.f8.params.all (Tryz.prog.readableRec ·)) = true := by kernel_rfl
theorem jfClientSteps4 : (namedTie Tryz.prog Rows.clientStepsRow.named Rows.clientStepsSpec.vars) = true := by kernel_rfl
theorem jfClientSteps5 : ((Rows.clientStepsRow.stops == [])) = true := by kernel_rfl
theorem jfClientSteps6 : ((Tryz.prog.stops == [])) = true := by kernel_rfl
theorem jfClientSteps7 : ((Rows.clientStepsRow.knobs == [])) = true := by kernel_rfl
theorem jfClientSteps8 : ((Tryz.prog.stopKnobs == [])) = true := by kernel_rfl
theorem jfClientSteps9 : ((Rows.clientStepsRow.inPlace == Tryz.prog.inPlace 8)) = true := by kernel_rfl
theorem jfClientSteps10 : ((Rows.clientStepsRow.unfollowed == Tryz.prog.unfollowed 8)) = true := by kernel_rfl
theorem jfClientSteps11 : ((Rows.clientStepsRow.recurses == Tryz.prog.recurses 8)) = true := by kernel_rfl
theorem jfClientSteps12 : ((Rows.clientStepsRow.named == Tryz.prog.varsNamed 8)) = true := by kernel_rfl
theorem jfClientSteps13 : ((Rows.clientStepsRow.maps == (Tryz.f8.params.toList ++ Rows.clientStepsSpec.plain.varTypes Tryz.prog).any (Tryz.prog.mapsRec ·))) = true := by kernel_rfl
theorem jfClientSteps14 : ((Rows.clientStepsRow.ifaces == (Tryz.f8.params.toList ++ Rows.clientStepsSpec.plain.varTypes Tryz.prog).any (Tryz.prog.ifacesRec ·))) = true := by kernel_rfl
theorem jfClientSteps15 : ((Rows.clientStepsRow.mapsOut == Tryz.prog.mapsAmong Tryz.f8.resultTypes.toList)) = true := by kernel_rfl
theorem jfClientSteps16 : ((Rows.clientStepsRow.loops == (Tryz.f8.params.toList ++ Rows.clientStepsSpec.plain.varTypes Tryz.prog).any (Tryz.prog.loopsFrom ·))) = true := by kernel_rfl
theorem jfClientSteps17 : ((Rows.clientStepsRow.wideKeys == (Tryz.f8.params.toList ++ Rows.clientStepsSpec.plain.varTypes Tryz.prog ++ Tryz.f8.resultTypes.toList).any (Tryz.prog.wideKeysFrom ·))) = true := by kernel_rfl
theorem jfClientSteps18 : (Rows.clientStepsSpec.vars.all (Tryz.prog.varReadable ·)) = true := by kernel_rfl
theorem jfClientSteps19 : (Tryz.f8.resultTypes.all (fun t => Tryz.prog.readableRec t && decide (t < Tryz.prog.types.size))) = true := by kernel_rfl
theorem jfClientSteps20 : ((Rows.clientStepsRow.ifacesOut == Tryz.f8.resultTypes.toList.any (Tryz.prog.ifacesRec ·))) = true := by kernel_rfl
theorem jfClientSteps21 : ((Rows.clientStepsRow.loopsOut == Tryz.f8.resultTypes.toList.any (Tryz.prog.loopsFrom ·))) = true := by kernel_rfl
theorem jfClientSteps22 : ((Rows.clientStepsRow.plainKeys == Tryz.prog.plainKeys)) = true := by kernel_rfl
theorem jfClientSteps23 : (Rows.clientStepsRow.shortTexts.isNone) = true := by kernel_rfl
theorem jfClientSteps24 : (Tryz.prog.stopsHeard) = true := by kernel_rfl
theorem jfClientSteps25 : (Tryz.prog.mayEnter) = true := by kernel_rfl
theorem jfClientSteps26 : ((Rows.clientStepsRow.lifted == Tryz.prog.liftsFinal)) = true := by kernel_rfl
theorem jfClientSteps27 : ((Tryz.prog.make == some Rows.clientStepsRow.make)) = true := by kernel_rfl
theorem jfClientSteps28 : ((Rows.clientStepsRow.kinds == (if Rows.clientStepsRow.domain.isEmpty then [] else Tryz.f8.params.toList.map fun t => match Tryz.prog.underlying t with | some (.int k) => some k | _ => none))) = true := by kernel_rfl
theorem jfClientSteps29 : ((Rows.clientStepsRow.pinned == Rows.clientStepsRow.pinnedBy)) = true := by kernel_rfl
theorem jfClientSteps30 : ((Rows.clientStepsRow.veiled == (Tryz.f8.params.toList ++ Rows.clientStepsSpec.plain.varTypes Tryz.prog ++ Tryz.f8.resultTypes.toList).any (Tryz.prog.veiledRec ·))) = true := by kernel_rfl
theorem jfClientSteps31 : (Rows.clientStepsRow.veiledFits Tryz.prog Tryz.f8.params.toList (Tryz.f8.params.toList ++ Rows.clientStepsSpec.plain.varTypes Tryz.prog ++ Tryz.f8.resultTypes.toList)) = true := by kernel_rfl
theorem jfClientSteps : joinedFacts Tryz.prog 8 Tryz.f8 Rows.clientStepsSpec Rows.clientStepsRow = true := by
  unfold joinedFacts
  simp only [Bool.and_eq_true]
  exact ⟨⟨⟨⟨⟨⟨⟨⟨⟨⟨⟨⟨⟨⟨⟨⟨⟨⟨⟨⟨⟨⟨⟨⟨⟨⟨⟨⟨⟨⟨⟨jfClientSteps0, jfClientSteps1⟩, jfClientSteps2⟩, jfClientSteps3⟩, jfClientSteps4⟩, jfClientSteps5⟩, jfClientSteps6⟩, jfClientSteps7⟩, jfClientSteps8⟩, jfClientSteps9⟩, jfClientSteps10⟩, jfClientSteps11⟩, jfClientSteps12⟩, jfClientSteps13⟩, jfClientSteps14⟩, jfClientSteps15⟩, jfClientSteps16⟩, jfClientSteps17⟩, jfClientSteps18⟩, jfClientSteps19⟩, jfClientSteps20⟩, jfClientSteps21⟩, jfClientSteps22⟩, jfClientSteps23⟩, jfClientSteps24⟩, jfClientSteps25⟩, jfClientSteps26⟩, jfClientSteps27⟩, jfClientSteps28⟩, jfClientSteps29⟩, jfClientSteps30⟩, jfClientSteps31⟩
theorem overClientSteps : Rows.clientStepsRow.holds Tryz.pinned (OpenSpec.ofChange Rows.clientStepsSpec) :=
  OpenClaim.holds_of_wide 8 Tryz.f8 rfl rfl rfl rfl rfl rfl rfl ⟨rfl, rfl, rfl, rfl, rfl⟩ rfl rfl rfl rfl rfl (by kernel_rfl) Tryz.func8 jfClientSteps
    (of_decide_eq_true (by kernel_rfl)) (by unfold Func.isWrapper; first | (rw [if_pos (by decide +kernel)]; kernel_rfl) | (rw [if_neg (by decide +kernel)]; exact ⟨rfl, rfl⟩))
    (fun os started H enc _ => liftedClientSteps os started H enc)
/-- The given statement: the card. -/
theorem ClientSteps_holds : Rows.ClientStepsCardSaid :=
  Claim7.holds_tied_plain_at .later [] [.data, .data, .data, .data, .sentinel, .sentinel, .pinned] true (true, "200425297b6fefbf121aecdde5f7e44e7ea82aafe0221b1ae02ba29ca9635da4") true overClientSteps (fun _ h => by cases h) (by kernel_rfl) (fun _ h => by cases h) clientSteps_row_tie rfl ⟨rfl, rfl⟩ (by kernel_rfl) rfl
    (fun f fn hf hfn => by
      obtain rfl : f = 8 := Option.some.inj ((show Tryz.prog.funcNamed Rows.clientStepsRow.func = some 8 by kernel_rfl).symm.trans hf) |>.symm
      obtain rfl : fn = Tryz.f8 := (Option.some.inj (Tryz.func8.symm.trans hfn)).symm
      exact ⟨by kernel_rfl, fun j t ht => by
        rw [Tryz.params8] at ht
        have hm : t ∈ [24, 41] := by have := Array.mem_of_getElem? ht; simpa using this
        have hall : ([24, 41].all fun u => !Tryz.prog.wantsStandIn u) = true := by kernel_rfl
        exact (show Tryz.prog.wantsStandIn t = false by simpa using List.all_eq_true.1 hall t hm)⟩)
    (by kernel_rfl)
end Go.Proofs.YtgjkjkmmgdbcoaaGreatDoor
