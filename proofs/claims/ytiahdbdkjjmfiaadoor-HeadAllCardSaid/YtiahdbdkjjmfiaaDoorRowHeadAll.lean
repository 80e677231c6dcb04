/-
  HeadAll: the row, out of the walk and the plain law; and its card.
-/
import Derived.Test.YtiahdbdkjjmfiaaDoorRows
import Derived.Test.YtiahdbdkjjmfiaaDoorCards
import Derived.Test.YtiahdbdkjjmfiaaDoorTie
import Derived.Test.YtiahdbdkjjmfiaaDoorZHeadAll4
import Derived.WalkKit
import Derived.ProofKit
import Derived.OpenShut
import Derived.ShutString
import Derived.ChangeOld
import Derived.Below
import Derived.LaidMore
import Derived.Lay
import Derived.SevenTiedAt
import Derived.Stop.Joined
namespace Go.Proofs.YtiahdbdkjjmfiaaDoor
open Go.ChangeShapes Go.WideShapes Go.ChangeAt Go.RowKit
open Go.ChangeMaps (open_string shut_string)
set_option linter.unusedVariables false
theorem ownHeadAll : ownKnob Tryd.prog.godebug = none := by kernel_rfl
theorem laidOutHeadAll : laidOutB Tryd.prog = true := by kernel_rfl
theorem plainLaidHeadAll : (Rows.headAllRow.laid.all fun x => x.2.handleName?.isNone) = true := by kernel_rfl
/-- What the variables that the walk reads hold when the call begins. -/
theorem globsHeadAll {W : World} (hsh : W.ShapedOpen Tryd.prog) (hL : laidMetH Tryd.prog Rows.headAllRow.laid W) : ∀ g cs, Go.Av.G g = some cs → Go.Av.Rel (Go.Av.Info.start W) W (.cp cs) (.pointer (some ⟨g, 0, none⟩)) := by
  rw [MakeChecks.laidMetH_plain _ _ _ plainLaidHeadAll] at hL
  have x0 : ∃ m, W.cell? ⟨0, 0, none⟩ = some (.int .i64 m) := cell_of_shapedOpen_int (P := Tryd.prog) (g := 0) (t := 3) (zero := #[.int .i64 0]) hsh (of_decide_eq_true (by kernel_rfl)) (by kernel_rfl) rfl (by kernel_rfl) (by kernel_rfl) Tryd.underlying3
  intro g cs hG
  rcases g with _ | g
  · obtain rfl := Option.some.inj hG
    obtain ⟨m, hm⟩ := x0
    exact Go.Av.rel_var hm (.anyk _ _)
  · simp [Go.Av.G] at hG
set_option maxRecDepth 100000 in
theorem liftedHeadAll (os : Os) (started : os.Started) (H : Type) (enc : TypeId × Value → H) :
    ReturnsInHanded {} Tryd.checked os 8 .any (fun w args => (Rows.headAllSpec.pre enc Tryd.prog Tryd.f8 Rows.headAllRow.domain false w args ∧ laidMetH Tryd.prog Rows.headAllRow.laid w) ∧ sizedMet enc Tryd.prog Tryd.f8 (OpenSpec.ofChange Rows.headAllSpec) false w args)
      (Rows.headAllSpec.post enc Tryd.prog Tryd.f8 false true false false) := by
  refine Go.Av.returns_and_shaped (C := Tryd.checked) (X := fun w _ => laidMetH Tryd.prog Rows.headAllRow.laid w) (fun _ _ _ hh h => h.of_heap hh) ownHeadAll started (by kernel_rfl) Tryd.func8
    (ChangeSpec.witness_shaped (enc := enc) (C := Tryd.checked) (os := os) (X := fun w _ => laidMetH Tryd.prog Rows.headAllRow.laid w) false (World.laidAll Tryd.prog os Rows.headAllRow.laid) #[.slice none 0 0, .slice none 0 0] 8 (World.laidAll_os _ _ _)
      (World.shaped_of_ZipB (by kernel_rfl) (by kernel_rfl)) (by kernel_rfl) (by kernel_rfl) (by kernel_rfl)
      (by rw [MakeChecks.laidMetH_plain _ _ _ plainLaidHeadAll]; exact laidMet_laidAll _ (by kernel_rfl) (by kernel_rfl))) ?_
  intro W base args ds gs before hval0 hW hsh hL
  have hval : ∀ (j : Nat) t v, Tryd.f8.params[j]? = some t → args[j]? = some v → Value.okWide Tryd.prog W .any base t v := hval0
  have hW' := hW
  obtain ⟨p, q, hA0, hV, rfl, hfz, hnd⟩ := hW
  have hA : DataW.TrodAll enc Tryd.prog W 0 (fun _ => true) true Tryd.f8.params.toList args.toList ds p := hA0
  rw [Tryd.params8] at hA hval
  obtain ⟨v0, vs0, d0, ds0, p0, q0, hargs, rfl, rfl, h0, r0⟩ := trodAll_cons hA
  obtain ⟨v1, vs1, d1, ds1, p1, q1, rfl, rfl, rfl, h1, r1⟩ := trodAll_cons r0
  obtain ⟨rfl, rfl, rfl⟩ := trodAll_nil r1
  obtain rfl : args = #[v0, v1] := by cases args; simp_all
  obtain ⟨rfl, rfl⟩ := trodVars_none hV
  have k0 := h0
  have lt0 : ∀ x ∈ p0, x.block < W.heap.size := by obtain ⟨m, hm⟩ := k0; exact DataW.trod_lt m _ _ _ hm
  have k1 := h1
  have lt1 : ∀ x ∈ p1, x.block < W.heap.size := by obtain ⟨m, hm⟩ := k1; exact DataW.trod_lt m _ _ _ hm
  obtain ⟨a0, len0, cap0, rfl⟩ := okWide_slice Tryd.underlying27 (hval 0 27 v0 rfl rfl)
  obtain ⟨l0, _, w0⟩ := Go.Av.one_of (P := Tryd.prog) (w := W) rfl h0 (Go.Av.opens_slice (Go.Av.Enc.prod (Go.Av.Enc.str) (Go.Av.Enc.str)) (fun (x : (List UInt8 × List UInt8 × Unit)) => (x.1, x.2.1)) Tryd.underlying27 (by kernel_rfl) (Go.Av.opens_struct (tot := 2) Tryd.underlying23 (by kernel_rfl) (Go.Av.opensF_cons (k := 1) rfl (by kernel_rfl) (Go.Av.opens_str Tryd.underlying9) (Go.Av.opensF_cons (k := 1) rfl (by kernel_rfl) (Go.Av.opens_str Tryd.underlying9) (Go.Av.opensF_nil (tot := 2))))) (fun _ => rfl))
  obtain ⟨a1, len1, cap1, rfl⟩ := okWide_slice Tryd.underlying24 (hval 1 24 v1 rfl rfl)
  obtain ⟨l1, hl1, hm1, w1⟩ : ∃ l : List UInt8, l.length = len1 ∧ len1 ≤ maxLen ∧ Go.Av.Rel (Go.Av.Info.start W) W (Go.Av.slE Go.Av.Enc.byte l none) (.slice a1 len1 cap1) := by
    obtain ⟨fuel, hf⟩ := h1
    rcases open_ints Tryd.underlying24 Tryd.underlying5 (by kernel_rfl) hf with ⟨hcs, _⟩ | ⟨x, l, c, zs, hcs, _, hl, hm, hz, _, hcell, hwz⟩
    · simp [Value.cells] at hcs
      obtain ⟨rfl, rfl, rfl⟩ := hcs
      exact Go.Av.rel_bytes (.inl ⟨rfl, rfl, rfl, rfl⟩)
    · simp [Value.cells] at hcs
      obtain ⟨rfl, rfl, rfl⟩ := hcs
      exact Go.Av.rel_bytes (.inr ⟨_, rfl, hl, hm, by simpa using hz, hcell, hwz⟩)
  clear hA0 hval0
  refine (Go.Av.law_of (w_law14_HeadAll 1000000 (l0) none (l1) none true (Go.Hd.HeadAll_t (l0) (l1))) (Go.Av.RelL.cons w0 (Go.Av.RelL.cons w1 Go.Av.RelL.nil)) (globsHeadAll hsh hL)).mono fun e W' ⟨he, bel⟩ => ?_
  subst he
  exact ⟨_, rfl, _, _, _, [], _, [], hW', trodAll_mk1 (shut_bool Tryd.underlying4 _), (trodAll_cons_mk (Below.trod laidOutHeadAll (by kernel_rfl) (of_decide_eq_true (by kernel_rfl)) k0 bel lt0) (trodAll_cons_mk (Below.trod laidOutHeadAll (by kernel_rfl) (of_decide_eq_true (by kernel_rfl)) k1 bel lt1) trodAll_mk0)), rfl, bel.frame _, fun h => by cases h⟩
theorem overHeadAll : Rows.headAllRow.holds Tryd.pinned (OpenSpec.ofChange Rows.headAllSpec) :=
  OpenClaim.holds_of_wide 8 Tryd.f8 rfl rfl rfl rfl rfl rfl rfl ⟨rfl, rfl, rfl, rfl, rfl⟩ rfl rfl rfl rfl rfl (by kernel_rfl) Tryd.func8 (by kernel_rfl)
    (of_decide_eq_true (by kernel_rfl)) (by unfold Func.isWrapper; first | (rw [if_pos (by decide +kernel)]; kernel_rfl) | (rw [if_neg (by decide +kernel)]; exact ⟨rfl, rfl⟩))
    (fun os started H enc _ => liftedHeadAll os started H enc)
/-- The given statement: the card. -/
theorem HeadAll_holds : Rows.HeadAllCardSaid :=
  Claim7.holds_tied_plain_at .later [] [.data, .pinned] true (true, "3e760dc76b72d739fc10afe20d43e6feae226329246e805fe6b2d9064ed56370") false overHeadAll (fun _ h => by cases h) (by kernel_rfl) (fun _ h => by cases h) headAll_row_tie rfl ⟨rfl, rfl⟩ (by kernel_rfl) rfl
    (fun f fn hf hfn => by
      obtain rfl : f = 8 := Option.some.inj ((show Tryd.prog.funcNamed Rows.headAllRow.func = some 8 by kernel_rfl).symm.trans hf) |>.symm
      obtain rfl : fn = Tryd.f8 := (Option.some.inj (Tryd.func8.symm.trans hfn)).symm
      exact ⟨by kernel_rfl, fun j t ht => by
        rw [Tryd.params8] at ht
        have hm : t ∈ [27, 24] := by have := Array.mem_of_getElem? ht; simpa using this
        have hall : ([27, 24].all fun u => !Tryd.prog.wantsStandIn u) = true := by kernel_rfl
        exact (show Tryd.prog.wantsStandIn t = false by simpa using List.all_eq_true.1 hall t hm)⟩)
    (by kernel_rfl)
end Go.Proofs.YtiahdbdkjjmfiaaDoor
