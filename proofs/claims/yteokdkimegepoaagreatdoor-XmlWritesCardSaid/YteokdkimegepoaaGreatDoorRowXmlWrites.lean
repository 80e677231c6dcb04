/-
  XmlWrites: the row, out of the walk and the plain law; and its card.
-/
import Derived.Test.YteokdkimegepoaaGreatDoorRows
import Derived.Test.YteokdkimegepoaaGreatDoorCards
import Derived.Test.YteokdkimegepoaaGreatDoorTie
import Derived.Test.YteokdkimegepoaaGreatDoorZXmlWrites6
import Derived.WalkKit
import Derived.ProofKit
import Derived.OpenShut
import Derived.ShutString
import Derived.ChangeOld
import Derived.Below
import Derived.LaidMore
import Derived.Lay
import Derived.SevenTiedAt
import Derived.Stop.Joined
namespace Go.Proofs.YteokdkimegepoaaGreatDoor
open Go.ChangeShapes Go.WideShapes Go.ChangeAt Go.RowKit
open Go.ChangeMaps (open_string shut_string)
set_option linter.unusedVariables false
theorem ownXmlWrites : ownKnob Tryz.prog.godebug = none := by kernel_rfl
theorem laidOutXmlWrites : laidOutB Tryz.prog = true := by kernel_rfl
theorem plainLaidXmlWrites : (Rows.xmlWritesRow.laid.all fun x => x.2.handleName?.isNone) = true := by kernel_rfl
/-- What the variables that the walk reads hold when the call begins. -/
theorem globsXmlWrites {W : World} (hsh : W.ShapedOpen Tryz.prog) (hL : laidMetH Tryz.prog Rows.xmlWritesRow.laid W) : ∀ g cs, Go.Av.G g = some cs → Go.Av.Rel (Go.Av.Info.start W) W (Go.Av.gv cs) (.pointer (some ⟨g, 0, none⟩)) := by
  rw [MakeChecks.laidMetH_plain _ _ _ plainLaidXmlWrites] at hL
  have x0 : ∃ m, W.cell? ⟨0, 0, none⟩ = some (.int .i64 m) := cell_of_shapedOpen_int (P := Tryz.prog) (g := 0) (t := 3) (zero := #[.int .i64 0]) hsh (of_decide_eq_true (by kernel_rfl)) (by kernel_rfl) rfl (by kernel_rfl) (by kernel_rfl) Tryz.underlying3
  have x3 : ∃ v, W.cell? ⟨3, 0, none⟩ = some v ∧ (v = .nilIface ∨ ∃ u y, v = .iface u y) := Go.Av.laid_iface (n := "strconv.ErrSyntax") (d := Rows.laid_strconv_ErrSyntax) hL (by simp [Rows.xmlWritesRow]) (by kernel_rfl) (by kernel_rfl) Tryz.underlying62
  have x4 : ∃ v, W.cell? ⟨4, 0, none⟩ = some v ∧ (v = .nilIface ∨ ∃ u y, v = .iface u y) := Go.Av.laid_iface (n := "strconv.ErrRange") (d := Rows.laid_strconv_ErrRange) hL (by simp [Rows.xmlWritesRow]) (by kernel_rfl) (by kernel_rfl) Tryz.underlying62
  intro g cs hG
  rcases g with _ | _ | _ | _ | _ | g
  · obtain rfl := Option.some.inj hG
    obtain ⟨m, hm⟩ := x0
    exact Go.Av.rel_var hm (.anyk _ _)
  · simp [Go.Av.G] at hG
  · simp [Go.Av.G] at hG
  · obtain rfl := Option.some.inj hG
    obtain ⟨v, hv, hk⟩ := x3
    exact Go.Av.rel_var hv (Go.Av.rel_anyi hk)
  · obtain rfl := Option.some.inj hG
    obtain ⟨v, hv, hk⟩ := x4
    exact Go.Av.rel_var hv (Go.Av.rel_anyi hk)
  · simp [Go.Av.G] at hG
set_option maxRecDepth 100000 in
theorem liftedXmlWrites (os : Os) (started : os.Started) (H : Type) (enc : TypeId × Value → H) :
    ReturnsInHanded {} Tryz.checked os 7 .any (fun w args => (Rows.xmlWritesSpec.pre enc Tryz.prog Tryz.f7 Rows.xmlWritesRow.domain false w args ∧ laidMetH Tryz.prog Rows.xmlWritesRow.laid w) ∧ sizedMet enc Tryz.prog Tryz.f7 (OpenSpec.ofChange Rows.xmlWritesSpec) false w args)
      (Rows.xmlWritesSpec.post enc Tryz.prog Tryz.f7 false true false false) := by
  refine Go.Av.returns_and_shaped (C := Tryz.checked) (X := fun w _ => laidMetH Tryz.prog Rows.xmlWritesRow.laid w) (fun _ _ _ hh h => h.of_heap hh) ownXmlWrites started (by kernel_rfl) Tryz.func7
    (ChangeSpec.witness_shaped (enc := enc) (C := Tryz.checked) (os := os) (X := fun w _ => laidMetH Tryz.prog Rows.xmlWritesRow.laid w) false (World.laidAll Tryz.prog os Rows.xmlWritesRow.laid) #[.slice none 0 0, .slice none 0 0, .string ByteArray.empty] 8 (World.laidAll_os _ _ _)
      (World.shaped_of_ZipB (by kernel_rfl) (by kernel_rfl)) (by kernel_rfl) (by kernel_rfl) (by kernel_rfl)
      (by rw [MakeChecks.laidMetH_plain _ _ _ plainLaidXmlWrites]; exact laidMet_laidAll _ (by kernel_rfl) (by kernel_rfl))) ?_
  intro W base args ds gs before hval0 hW hsh hL
  have hval : ∀ (j : Nat) t v, Tryz.f7.params[j]? = some t → args[j]? = some v → Value.okWide Tryz.prog W .any base t v := hval0
  have hW' := hW
  obtain ⟨p, q, hA0, hV, rfl, hfz, hnd⟩ := hW
  have hA : DataW.TrodAll enc Tryz.prog W 0 (fun _ => true) true Tryz.f7.params.toList args.toList ds p := hA0
  rw [Tryz.params7] at hA hval
  obtain ⟨v0, vs0, d0, ds0, p0, q0, hargs, rfl, rfl, h0, r0⟩ := trodAll_cons hA
  obtain ⟨v1, vs1, d1, ds1, p1, q1, rfl, rfl, rfl, h1, r1⟩ := trodAll_cons r0
  obtain ⟨v2, vs2, d2, ds2, p2, q2, rfl, rfl, rfl, h2, r2⟩ := trodAll_cons r1
  obtain ⟨rfl, rfl, rfl⟩ := trodAll_nil r2
  obtain rfl : args = #[v0, v1, v2] := by cases args; simp_all
  obtain ⟨rfl, rfl⟩ := trodVars_none hV
  have k0 := h0
  have lt0 : ∀ x ∈ p0, x.block < W.heap.size := by obtain ⟨m, hm⟩ := k0; exact DataW.trod_lt m _ _ _ hm
  have k1 := h1
  have lt1 : ∀ x ∈ p1, x.block < W.heap.size := by obtain ⟨m, hm⟩ := k1; exact DataW.trod_lt m _ _ _ hm
  have k2 := h2
  have lt2 : ∀ x ∈ p2, x.block < W.heap.size := by obtain ⟨m, hm⟩ := k2; exact DataW.trod_lt m _ _ _ hm
  obtain ⟨a0, len0, cap0, rfl⟩ := okWide_slice Tryz.underlying24 (hval 0 24 v0 rfl rfl)
  obtain ⟨l0, _, w0⟩ := Go.Av.one_of (P := Tryz.prog) (w := W) rfl h0 (Go.Av.opens_slice (Go.Av.Enc.prod (Go.Av.Enc.int) (Go.Av.Enc.prod (Go.Av.Enc.str) (Go.Av.Enc.prod (Go.Av.Enc.str) (Go.Av.Enc.sl (Go.Av.Enc.prod (Go.Av.Enc.str) (Go.Av.Enc.str)))))) (fun (x : (Int × List UInt8 × List UInt8 × List ((List UInt8) × List UInt8) × Unit)) => (x.1, x.2.1, x.2.2.1, x.2.2.2.1)) Tryz.underlying24 (by kernel_rfl) (Go.Av.opens_struct (tot := 4) Tryz.underlying33 (by kernel_rfl) (Go.Av.opensF_cons (k := 1) rfl (by kernel_rfl) (Go.Av.opens_int Tryz.underlying3) (Go.Av.opensF_cons (k := 1) rfl (by kernel_rfl) (Go.Av.opens_str Tryz.underlying9) (Go.Av.opensF_cons (k := 1) rfl (by kernel_rfl) (Go.Av.opens_str Tryz.underlying9) (Go.Av.opensF_cons (k := 1) rfl (by kernel_rfl) (Go.Av.opens_slice (Go.Av.Enc.prod (Go.Av.Enc.str) (Go.Av.Enc.str)) (fun (x : (List UInt8 × List UInt8 × Unit)) => (x.1, x.2.1)) Tryz.underlying31 (by kernel_rfl) (Go.Av.opens_struct (tot := 2) Tryz.underlying44 (by kernel_rfl) (Go.Av.opensF_cons (k := 1) rfl (by kernel_rfl) (Go.Av.opens_str Tryz.underlying9) (Go.Av.opensF_cons (k := 1) rfl (by kernel_rfl) (Go.Av.opens_str Tryz.underlying9) (Go.Av.opensF_nil (tot := 2))))) (fun _ => rfl)) (Go.Av.opensF_nil (tot := 4))))))) (fun _ => rfl))
  obtain ⟨a1, len1, cap1, rfl⟩ := okWide_slice Tryz.underlying24 (hval 1 24 v1 rfl rfl)
  obtain ⟨l1, _, w1⟩ := Go.Av.one_of (P := Tryz.prog) (w := W) rfl h1 (Go.Av.opens_slice (Go.Av.Enc.prod (Go.Av.Enc.int) (Go.Av.Enc.prod (Go.Av.Enc.str) (Go.Av.Enc.prod (Go.Av.Enc.str) (Go.Av.Enc.sl (Go.Av.Enc.prod (Go.Av.Enc.str) (Go.Av.Enc.str)))))) (fun (x : (Int × List UInt8 × List UInt8 × List ((List UInt8) × List UInt8) × Unit)) => (x.1, x.2.1, x.2.2.1, x.2.2.2.1)) Tryz.underlying24 (by kernel_rfl) (Go.Av.opens_struct (tot := 4) Tryz.underlying33 (by kernel_rfl) (Go.Av.opensF_cons (k := 1) rfl (by kernel_rfl) (Go.Av.opens_int Tryz.underlying3) (Go.Av.opensF_cons (k := 1) rfl (by kernel_rfl) (Go.Av.opens_str Tryz.underlying9) (Go.Av.opensF_cons (k := 1) rfl (by kernel_rfl) (Go.Av.opens_str Tryz.underlying9) (Go.Av.opensF_cons (k := 1) rfl (by kernel_rfl) (Go.Av.opens_slice (Go.Av.Enc.prod (Go.Av.Enc.str) (Go.Av.Enc.str)) (fun (x : (List UInt8 × List UInt8 × Unit)) => (x.1, x.2.1)) Tryz.underlying31 (by kernel_rfl) (Go.Av.opens_struct (tot := 2) Tryz.underlying44 (by kernel_rfl) (Go.Av.opensF_cons (k := 1) rfl (by kernel_rfl) (Go.Av.opens_str Tryz.underlying9) (Go.Av.opensF_cons (k := 1) rfl (by kernel_rfl) (Go.Av.opens_str Tryz.underlying9) (Go.Av.opensF_nil (tot := 2))))) (fun _ => rfl)) (Go.Av.opensF_nil (tot := 4))))))) (fun _ => rfl))
  obtain ⟨a2, rfl, rfl, rfl, w2⟩ := open_string Tryz.underlying9 (hval 2 9 v2 rfl rfl) h2
  clear hA0 hval0
  refine (Go.Av.law_of (pS 2000000 (l0) none (l1) none (a2.data.toList) true (Go.Xm.XmlWrites_t (l0) (l1) (a2.data.toList))) (Go.Av.RelL.cons w0 (Go.Av.RelL.cons w1 (Go.Av.RelL.cons (Go.Av.rel_string _ _ a2) Go.Av.RelL.nil))) (globsXmlWrites hsh hL)).mono fun e W' ⟨he, bel⟩ => ?_
  subst he
  exact ⟨_, rfl, _, _, _, [], _, [], hW', trodAll_mk1 (shut_bool Tryz.underlying4 _), (trodAll_cons_mk (Below.trod laidOutXmlWrites (by kernel_rfl) (of_decide_eq_true (by kernel_rfl)) k0 bel lt0) (trodAll_cons_mk (Below.trod laidOutXmlWrites (by kernel_rfl) (of_decide_eq_true (by kernel_rfl)) k1 bel lt1) (trodAll_cons_mk (Below.trod laidOutXmlWrites (by kernel_rfl) (of_decide_eq_true (by kernel_rfl)) k2 bel lt2) trodAll_mk0))), rfl, bel.frame _, fun h => by cases h⟩
theorem overXmlWrites : Rows.xmlWritesRow.holds Tryz.pinned (OpenSpec.ofChange Rows.xmlWritesSpec) :=
  OpenClaim.holds_of_wide 7 Tryz.f7 rfl rfl rfl rfl rfl rfl rfl ⟨rfl, rfl, rfl, rfl, rfl⟩ rfl rfl rfl rfl rfl (by kernel_rfl) Tryz.func7 (by kernel_rfl)
    (of_decide_eq_true (by kernel_rfl)) (by unfold Func.isWrapper; first | (rw [if_pos (by decide +kernel)]; kernel_rfl) | (rw [if_neg (by decide +kernel)]; exact ⟨rfl, rfl⟩))
    (fun os started H enc _ => liftedXmlWrites os started H enc)
/-- The given statement: the card. -/
theorem XmlWrites_holds : Rows.XmlWritesCardSaid :=
  Claim7.holds_tied_plain_at .later [] [.data, .data, .data, .data, .sentinel, .sentinel, .pinned] true (true, "497d33d9d3c1b7ccad689684dba5f50efa6f58f2b680c6ec720330d92b7b9911") true overXmlWrites (fun _ h => by cases h) (by kernel_rfl) (fun _ h => by cases h) xmlWrites_row_tie rfl ⟨rfl, rfl⟩ (by kernel_rfl) rfl
    (fun f fn hf hfn => by
      obtain rfl : f = 7 := Option.some.inj ((show Tryz.prog.funcNamed Rows.xmlWritesRow.func = some 7 by kernel_rfl).symm.trans hf) |>.symm
      obtain rfl : fn = Tryz.f7 := (Option.some.inj (Tryz.func7.symm.trans hfn)).symm
      exact ⟨by kernel_rfl, fun j t ht => by
        rw [Tryz.params7] at ht
        have hm : t ∈ [24, 9] := by have := Array.mem_of_getElem? ht; simpa using this
        have hall : ([24, 9].all fun u => !Tryz.prog.wantsStandIn u) = true := by kernel_rfl
        exact (show Tryz.prog.wantsStandIn t = false by simpa using List.all_eq_true.1 hall t hm)⟩)
    (by kernel_rfl)
end Go.Proofs.YteokdkimegepoaaGreatDoor
