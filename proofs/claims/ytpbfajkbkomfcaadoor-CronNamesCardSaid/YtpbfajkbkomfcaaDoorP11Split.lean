/-
  What strings.Split computes, by content.
-/
import Derived.Test.YtpbfajkbkomfcaaDoorP11Join
import Derived.Test.YtpbfajkbkomfcaaDoorAvLaw
import Derived.Lib.SplitLaws
set_option linter.unusedVariables false
set_option linter.unusedSimpArgs false
namespace Go.Proofs.YtpbfajkbkomfcaaDoor
open Go.RowKit Go.Av

theorem en10 : ∀ (args : Array Value) (w : World), (callFunc 10 args).run Tryd.prog w = .ok (.enter 10 args) w := fun _ _ => by kernel_rfl

theorem str_fl (l : List (List UInt8)) : Enc.str.fl l = l.map fun s => S s := by
  induction l with
  | nil => rfl
  | cons c s ih => rw [Enc.fl_cons, ih]; rfl
theorem lib_Split (s sep : List UInt8) (hs : s.length < 4294967281) (h1 : 1 ≤ sep.length) : ACalls Tryd.prog 10 [S s, S sep] [] (Ret (slE Enc.str (Go.Lib.split s sep) none) []) := fun F I w vs hI hv => by
  obtain ⟨v1, r1, rfl, e1, hv⟩ := hv.out_cons
  obtain ⟨v2, r2, rfl, e2, hv⟩ := hv.out_cons
  rw [hv.out_nil, rel_S e1, rel_S e2]
  obtain ⟨m, hm⟩ := glob_anyk hI (g := 0) (k := .i64) (r := []) rfl
  have hsep : 1 ≤ (⟨sep.toArray⟩ : ByteArray).size := by simpa [ByteArray.size] using h1
  refine (Tryd.strings_Split ⟨s.toArray⟩ ⟨sep.toArray⟩ m w (by simpa [ByteArray.size] using hs) hm hsep).mono fun e w' ⟨he, hw⟩ => ?_
  subst he; subst hw
  have hlen := Go.Lib.splitB_all ⟨sep.toArray⟩ hsep 0 _ ⟨s.toArray⟩ rfl
  have hdat := Go.Lib.splitB_data ⟨sep.toArray⟩ 0 (Go.Lib.countB ⟨s.toArray⟩ ⟨sep.toArray⟩) ⟨s.toArray⟩
  generalize hL : Go.Lib.splitB ⟨sep.toArray⟩ 0 (Go.Lib.countB ⟨s.toArray⟩ ⟨sep.toArray⟩) ⟨s.toArray⟩ = L at hlen hdat
  have hsp : Go.Lib.split s sep = L.map (·.data.toList) := by rw [hdat]; rfl
  have hll : (Go.Lib.split s sep).length = L.length := by rw [hsp]; simp
  refine ⟨_, .ret (slE Enc.str (Go.Lib.split s sep) none), [], hI.new_still _, hI.alloc_still _, ?_, rfl, rfl⟩
  rw [← hlen, ← hll]
  have hfl : (Enc.str.fl (Go.Lib.split s sep)).length = L.length := by rw [str_fl]; simp [hll]
  refine .sl 1 _ none w.heap.size 0 _ _ (fun j => (L.map Value.string).getD j undef) (by decide) (by rw [hfl, hll, Nat.mul_one]) (Nat.le_refl _) (fun m hm => by simp [Info.still] at hm) (fun j hj => ?_) (fun j hj => ?_) (fun _ h => by cases h)
  · rw [hfl] at hj
    rw [Nat.zero_add]
    simp only [World.cell?, heap_alloc_eq]
    simp [List.getD, hj]
  · have hj' : j < L.length := by rw [hfl] at hj; exact hj
    have : (Enc.str.fl (Go.Lib.split s sep))[j] = S (L[j].data.toList) := by
      simp only [str_fl, List.getElem_map, hsp]
    rw [this]
    have h2 : (L.map Value.string).getD j undef = .string L[j] := by simp [List.getD, hj']
    rw [h2]
    exact rel_string _ _ _

end Go.Proofs.YtpbfajkbkomfcaaDoor
