/-
  One goroutine at package sync's own words: atomic loads, stores, sums and compare-and-swaps over a cell of an object, and the marks of package internal/race. No program is spoken of.
-/
import Derived.Test.YtjhlnhipjomdeaaGreatDoorAvMore
import Derived.Test.YtjhlnhipjomdeaaGreatDoorAvObj
import Derived.Laws.LoneSync
set_option linter.unusedVariables false
set_option linter.unusedSimpArgs false
namespace Go.Av
open Go.RowKit

section
variable {P : Program} {A : List Chunk} {e : Env} {x y z : Operand} {d : Option Nat} {pos : String} {after : Array Edge} {g : Option (Nat × Bool)} {f : FuncId} {fn : Func} {ts : Array TypeId} {T2 : TypeId}

/-- A function without a body, that answers so. -/
structure Ext0 (P : Program) (f : FuncId) (fn : Func) (ext : Array Value → Sem Value) : Prop where
  hf : P.funcs[f]? = some fn
  nm : (fn.name == "runtime.NumGoroutine") = false
  nb : fn.body.isNone = true
  nn : Extern.findNext fn = none
  he : Extern.find fn = some ext

theorem exec_call {I : Info} {w w' : World} {ρ : Operand → Value} {args : Array Operand} {r : Next} (hρ : ∀ x, Rel I w (opv e x) (ρ x)) (h : (callFunc f (args.map ρ)).run P w = .ok r w') :
    (execOp ρ ⟨d, .call ⟨.value (.func f), args, ts⟩, T2, pos, after, g⟩).run P w = .ok r w' := by
  have h0 := rel_v (hρ (.func f))
  simp only [execOp, resolve, h0, Deferred.ofValue, Sem.run_bind, Sem.run_pure, Result.andThen_ok, invoke]
  simp only [Array.empty_append, Array.append_empty]
  exact h

theorem at_cell {I : Info} {w : World} {F : List Chunk} {o off i b : Nat} {cs : List AV} {k : IntKind} {n : Int} (hI : Inv I (A ++ F) w) (hA : A[i]? = some (.obj o cs)) (hc : cs[off]? = some (.v (.int k n))) (ho : I.obj o = some b) :
    w.cell? ⟨b, off, none⟩ = some (.int k n) ∧ w.frozen? ⟨b, off, none⟩ = false := by
  obtain ⟨b', arr, ho', he, hca, hrl⟩ := hI.holds _ (mem_app hA F)
  rw [ho] at ho'; cases ho'
  have hlt : off < cs.length := (List.getElem?_eq_some_iff.1 hc).1
  have hlt' : off < arr.length := by rw [hrl.1]; exact hlt
  have h0 : w.cell? ⟨b, off, none⟩ = some (arr.getD off undef) := by rw [hca.cell]; simp [List.getD, hlt']
  have hr := hrl.2 off hlt
  rw [(List.getElem?_eq_some_iff.1 hc).2] at hr
  rw [rel_v hr] at h0
  exact ⟨h0, hca.free hlt'⟩

theorem opR_atomLoad {o off i : Nat} {cs : List AV} {k : IntKind} {n : Int} (h : Ext0 P f fn (Extern.Atomic.loadT (.int k))) (hx : opv e x = .pt o off) (hA : A[i]? = some (.obj o cs)) (hc : cs[off]? = some (.v (.int k n))) :
    OpR P ⟨d, .call ⟨.value (.func f), #[x], ts⟩, T2, pos, after, g⟩ e A (.v (.int k n)) A := fun F I w ρ hI hρ => by
  have hp := hx ▸ hρ x
  generalize e1 : ρ x = v at hp
  cases hp with
  | pt o off b ho =>
    obtain ⟨h1, _⟩ := at_cell hI hA hc ho
    refine ⟨_, _, w, I, exec_call hρ ?_, .inl rfl, Ext.refl _ _, hI, .v _⟩
    rw [show (#[x].map ρ) = #[ρ x] by simp, e1]
    exact run_call_load h.hf h.nm h.nb h.nn k h.he h1

theorem opR_atomStore {o off i : Nat} {cs : List AV} {k k' : IntKind} {n m : Int} (h : Ext0 P f fn Extern.Atomic.storeT) (hx : opv e x = .pt o off) (hy : opv e y = .v (.int k' m)) (hA : A[i]? = some (.obj o cs)) (hc : cs[off]? = some (.v (.int k n))) :
    OpR P ⟨d, .call ⟨.value (.func f), #[x, y], ts⟩, T2, pos, after, g⟩ e A (.tup []) (A.set i (.obj o (cs.set off (.v (.int k' m))))) := fun F I w ρ hI hρ => by
  have hp := hx ▸ hρ x
  have hv := rel_v (hy ▸ hρ y)
  generalize e1 : ρ x = v at hp
  cases hp with
  | pt o off b ho =>
    obtain ⟨h1, h2⟩ := at_cell hI hA hc ho
    have hI2 := hI.take_at hA
    obtain ⟨E, hI3⟩ := hI2.set_obj ho off (Rel.v (I := I) (w := w) (.int k' m))
    refine ⟨_, .tuple #[], _, I, exec_call hρ ?_, .inl rfl, E, Inv.put_at hA hI3, .tup [] [] rfl (fun j h => absurd h (Nat.not_lt_zero _))⟩
    rw [show (#[x, y].map ρ) = #[ρ x, ρ y] by simp, e1, hv]
    exact run_call_store h.hf h.nm h.nb h.nn h.he h1 h2

theorem opR_atomCas {o off i : Nat} {cs : List AV} {k : IntKind} {n m : Int} (h : Ext0 P f fn (Extern.Atomic.casT (.int k))) (hx : opv e x = .pt o off) (hy : opv e y = .v (.int k n)) (hz : opv e z = .v (.int k m)) (hA : A[i]? = some (.obj o cs)) (hc : cs[off]? = some (.v (.int k n))) :
    OpR P ⟨d, .call ⟨.value (.func f), #[x, y, z], ts⟩, T2, pos, after, g⟩ e A (B true) (A.set i (.obj o (cs.set off (.v (.int k m))))) := fun F I w ρ hI hρ => by
  have hp := hx ▸ hρ x
  have hv := rel_v (hy ▸ hρ y)
  have hu := rel_v (hz ▸ hρ z)
  generalize e1 : ρ x = v at hp
  cases hp with
  | pt o off b ho =>
    obtain ⟨h1, h2⟩ := at_cell hI hA hc ho
    have hI2 := hI.take_at hA
    obtain ⟨E, hI3⟩ := hI2.set_obj ho off (Rel.v (I := I) (w := w) (.int k m))
    refine ⟨_, .bool true, _, I, exec_call hρ ?_, .inl rfl, E, Inv.put_at hA hI3, .v _⟩
    rw [show (#[x, y, z].map ρ) = #[ρ x, ρ y, ρ z] by simp, e1, hv, hu]
    exact run_call_cas_hit h.hf h.nm h.nb h.nn k h.he h1 h2

theorem opR_atomAdd {o off i : Nat} {cs : List AV} {k : IntKind} {n m s : Int} (h : Ext0 P f fn (Extern.Atomic.update (Op.intArith .add) k true)) (hx : opv e x = .pt o off) (hy : opv e y = .v (.int k m)) (hA : A[i]? = some (.obj o cs)) (hc : cs[off]? = some (.v (.int k n)))
    (hs : k.wrap (n + m) = s) :
    OpR P ⟨d, .call ⟨.value (.func f), #[x, y], ts⟩, T2, pos, after, g⟩ e A (.v (.int k s)) (A.set i (.obj o (cs.set off (.v (.int k s))))) := fun F I w ρ hI hρ => by
  have hp := hx ▸ hρ x
  have hv := rel_v (hy ▸ hρ y)
  generalize e1 : ρ x = v at hp
  cases hp with
  | pt o off b ho =>
    obtain ⟨h1, h2⟩ := at_cell hI hA hc ho
    have hI2 := hI.take_at hA
    obtain ⟨E, hI3⟩ := hI2.set_obj ho off (Rel.v (I := I) (w := w) (.int k s))
    refine ⟨_, _, _, I, exec_call hρ ?_, .inl rfl, E, Inv.put_at hA hI3, .v _⟩
    rw [show (#[x, y].map ρ) = #[ρ x, ρ y] by simp, e1, hv]
    exact run_call_add h.hf h.nm h.nb h.nn k h.he h1 h2 (by subst hs; rfl)

theorem opR_mark0 (m : Mark) (h : Ext0 P f fn (fun _ => do mark m; pure Extern.Race.none_)) : OpR P ⟨d, .call ⟨.value (.func f), #[], ts⟩, T2, pos, after, g⟩ e A (.tup []) A := fun F I w ρ hI hρ =>
  ⟨_, .tuple #[], w, I, exec_call hρ (by rw [show (#[].map ρ) = #[] by simp]; exact run_call_mark0 h.hf h.nm h.nb h.nn m h.he w), .inl rfl, Ext.refl _ _, hI, .tup [] [] rfl (fun j h => absurd h (Nat.not_lt_zero _))⟩
theorem opR_mark1 {o off : Nat} (m : Addr → Mark) (h : Ext0 P f fn (Extern.Race.marked m)) (hx : opv e x = .pt o off) : OpR P ⟨d, .call ⟨.value (.func f), #[x], ts⟩, T2, pos, after, g⟩ e A (.tup []) A := fun F I w ρ hI hρ => by
  have hp := hx ▸ hρ x
  generalize e1 : ρ x = v at hp
  cases hp with
  | pt o off b ho =>
    refine ⟨_, .tuple #[], w, I, exec_call hρ ?_, .inl rfl, Ext.refl _ _, hI, .tup [] [] rfl (fun j h => absurd h (Nat.not_lt_zero _))⟩
    rw [show (#[x].map ρ) = #[ρ x] by simp, e1]
    exact run_call_marked h.hf h.nm h.nb h.nn m h.he _ w

/-- unsafe.Pointer(p). -/
theorem opR_toUnsafe {S T t : TypeId} {o off i : Nat} {cs : List AV} {k : IntKind} {n : Int} (hs : P.underlying S = some (.pointer t)) (hd : P.underlying T = some .unsafePointer) (hsz : (P.info? t).map (fun i => decide (i.size = 0)) = some false)
    (hx : opv e x = .pt o off) (hA : A[i]? = some (.obj o cs)) (hc : cs[off]? = some (.v (.int k n))) : OpR P ⟨d, .convert S T x, T2, pos, after, g⟩ e A (.pt o off) A := fun F I w ρ hI hρ => by
  have hp := hx ▸ hρ x
  generalize e1 : ρ x = v at hp
  cases hp with
  | pt o off b ho =>
    obtain ⟨h1, _⟩ := at_cell hI hA hc ho
    refine ⟨.value (.pointer (some ⟨b, off, none⟩)), _, w, I, ?_, .inl rfl, Ext.refl _ _, hI, .pt o off b ho⟩
    simp only [execOp, e1, Sem.run_bind, run_convert_to_unsafe hs hd hsz h1, Result.andThen_ok, Sem.run_pure]
end
end Go.Av
