/-
  Walks over a text's signs. No program is spoken of.
-/
import Derived.Test.YtjhlnhipjomdeaaGreatDoorAvLift
import Derived.Laws.RangeAny
set_option linter.unusedVariables false
set_option linter.unusedSimpArgs false
namespace Go.Av
open Go.RowKit

section
variable {P : Program} {I : Info} {w : World} {e : Env} {d : Option Nat} {T : TypeId} {pos : String} {after : Array Edge} {g : Option (Nat × Bool)} {x y : Operand} {av : AV} {A : List Chunk}

theorem opX_range_str {s : List UInt8} {T2 : TypeId} (hT : P.underlying T = some .string) (hx : opv e x = S s) : OpX P ⟨d, .range T x, T2, pos, after, g⟩ e A (fun av A' => ∃ o, av = .pt o 0 ∧ A' = .iter o s 0 :: A) := fun F I w ρ hI hρ => by
  obtain ⟨o, ho⟩ := hI.fresh_obj
  have e1 := rel_v (hx ▸ hρ x)
  refine ⟨_, .pointer (some ⟨w.heap.size, 0, none⟩), _, _, _, _, ?_, .inl rfl, hI.new_obj ho _, hI.alloc_iter ho s 0, .pt o 0 _ (by simp [Info.putObj]), o, rfl, rfl⟩
  simp only [execOp, e1, run_range_string w T _ hT, Sem.run_bind, Result.andThen_ok, Sem.run_pure]
  rfl

/-- One sign more: where it stands, what it is, and where it goes on. -/
theorem opR_next_some {s : List UInt8} {o i p : Nat} (hx : opv e x = .pt o 0) (hA : A[i]? = some (.iter o s p)) (hp : p < s.length) :
    OpR P ⟨d, .next x true, T, pos, after, g⟩ e A (.tup [B true, i64 p, .v (.int .i32 (Utf8.decode ⟨s.toArray⟩ p).1)]) (A.set i (.iter o s (p + (Utf8.decode ⟨s.toArray⟩ p).2))) := fun F I w ρ hI hρ => by
  have h := hx ▸ hρ x
  generalize e1 : ρ x = v at h
  cases h with
  | pt o off b ho =>
    have hI2 := hI.take_at hA
    obtain ⟨b', ho', he, hh⟩ := hI2.holds _ (List.mem_cons_self ..)
    rw [ho] at ho'; cases ho'
    have hlt := (Array.getElem?_eq_some_iff.1 hh).1
    have hsz : (⟨s.toArray⟩ : ByteArray).size = s.length := by simp [ByteArray.size]
    have hrun : (Instr.next (.pointer (some ⟨b, 0, none⟩)) true T).run P w = .ok (.tuple #[.bool true, .int .i64 p, .int .i32 (Utf8.decode ⟨s.toArray⟩ p).1]) { w with heap := w.heap.setIfInBounds b (.stringIter ⟨s.toArray⟩ (p + (Utf8.decode ⟨s.toArray⟩ p).2)) } := by
      simp only [Instr.next, getObj, setObj, Sem.run_bind, Sem.run, hh, Result.andThen, hsz, hp, if_true]
      simp [goInt]
    obtain ⟨X, hI3⟩ := hI2.set_iter (pos' := p + (Utf8.decode ⟨s.toArray⟩ p).2) ho (w' := { w with heap := w.heap.setIfInBounds b (.stringIter ⟨s.toArray⟩ (p + (Utf8.decode ⟨s.toArray⟩ p).2)) }) rfl rfl rfl (by simp)
      (fun b' hb' => by simp only []; rw [Array.getElem?_setIfInBounds_ne (Ne.symm hb')]) (by simp [hlt])
    refine ⟨_, _, _, I, ?_, .inl rfl, X, Inv.put_at hA hI3, .tup _ [.bool true, .int .i64 p, .int .i32 (Utf8.decode ⟨s.toArray⟩ p).1] rfl (fun j hj => ?_)⟩
    · simp only [execOp, e1, hrun, Sem.run_bind, Result.andThen_ok, Sem.run_pure]
    · match j, hj with
      | 0, _ => exact .v _
      | 1, _ => exact .v _
      | 2, _ => exact .v _
theorem opR_next_none {s : List UInt8} {o i p : Nat} (hx : opv e x = .pt o 0) (hA : A[i]? = some (.iter o s p)) (hp : ¬ p < s.length) :
    OpR P ⟨d, .next x true, T, pos, after, g⟩ e A (.tup [B false]) A := fun F I w ρ hI hρ => by
  have h := hx ▸ hρ x
  generalize e1 : ρ x = v at h
  cases h with
  | pt o off b ho =>
    have hI2 := hI.take_at hA
    obtain ⟨b', ho', he, hh⟩ := hI2.holds _ (List.mem_cons_self ..)
    rw [ho] at ho'; cases ho'
    have hsz : (⟨s.toArray⟩ : ByteArray).size = s.length := by simp [ByteArray.size]
    have hrun : (Instr.next (.pointer (some ⟨b, 0, none⟩)) true T).run P w = .ok (.tuple #[.bool false]) w := by
      simp only [Instr.next, getObj, setObj, Sem.run_bind, Sem.run, hh, Result.andThen, hsz, hp, if_false]
      rfl
    refine ⟨_, _, w, I, ?_, .inl rfl, Ext.refl _ _, hI, .tup _ [.bool false] rfl (fun j hj => ?_)⟩
    · simp only [execOp, e1, hrun, Sem.run_bind, Result.andThen_ok, Sem.run_pure]
    · match j, hj with
      | 0, _ => exact .v _
end
end Go.Av
