/-
  Room that is made, capacities, interface values, signs as texts. No program is spoken of.
-/
import Derived.Test.YtjhlnhipjomdeaaGreatDoorAvUns
import Derived.Lib.MakeNoZero
set_option linter.unusedVariables false
set_option linter.unusedSimpArgs false
namespace Go.Av
open Go.RowKit

section
variable {P : Program} {I : Info} {w : World} {e : Env} {d : Option Nat} {T : TypeId} {pos : String} {after : Array Edge} {g : Option (Nat × Bool)} {x y : Operand} {av : AV} {A : List Chunk}

/-- Room for bytes: a row of which nothing stands yet. -/
theorem opX_makeNoZero {f : FuncId} {fn : Func} {argTypes : Array TypeId} {n : Int} {m : Nat} {t0 El : TypeId} {ps : Array TypeId} (hf : P.funcs[f]? = some fn)
    (hq : (fn.name == "runtime.NumGoroutine") = false ∧ fn.body.isNone = true ∧ Extern.findNext fn = none ∧ Extern.find fn = some (Extern.BytealgMakeNoZero.makeNoZero ps #[t0])) (hT : P.underlying t0 = some (.slice El))
    (hx : opv e x = i64 n) (hn : n = m) (hm : m ≤ 140737488355328) :
    OpX P ⟨d, .call ⟨.value (.func f), #[x], argTypes⟩, T, pos, after, g⟩ e A (fun av A' => ∃ t, av = .mk t m ∧ A' = .tok t El :: A) := fun F I w ρ hI hρ => by
  have e1 := rel_v (hx ▸ hρ x)
  have h0 := rel_v (hρ (.func f))
  subst hn
  obtain ⟨t, ht⟩ := hI.fresh_tok
  obtain ⟨cs, hrun, hge, _⟩ := Go.Lib.run_makeNoZero w ps t0 El hT m (by omega)
  have hID := hI.drew.drew
  have X := hID.new_row ht 0 cs.toList.length (.cells cs El)
  have hI' := hID.alloc_row ht 0 cs.toList El (0, 0) (Nat.zero_le _) (.inl rfl)
  refine ⟨_, .slice (some ⟨w.heap.size, 0, none⟩) m cs.size, _, _, _, _, ?_, .inl rfl, ((Ext.drew I w).trans (Ext.drew I w.drew)).trans X, hI', ?_, t, rfl, rfl⟩
  · simp only [execOp, resolve, h0, Deferred.ofValue, Sem.run_bind, Sem.run_pure, Result.andThen_ok, invoke]
    simp only [Array.empty_append, Array.append_empty, List.map_toArray, List.map_cons, List.map_nil, e1]
    rw [run_callFunc_extern hf hq.1 hq.2.1 hq.2.2.1 hq.2.2.2, hrun]
    rfl
  · refine .mk t m _ cs.size ?_
    simp [Info.putTok]
    try rfl

/-- Nothing of such room: a slice without elements, that may grow. -/
theorem opS_slice_mk {α : Type} {E : Enc α} {t m : Nat} {q' : IntKind} {n' : Int} {z : Operand} {El T2 : TypeId} (hT : P.underlying T = some (.slice El)) (hsz : cellsAt P El = some E.k) (hk : E.k = 1) (hx : opv e x = .mk t m)
    (hz : opv e z = .v (.int q' n')) (hn' : n' = 0) : OpS P ⟨d, .slice T x none (some z) none, T2, pos, after, g⟩ e (slE E [] (some t)) := fun I w ρ hρ => by
  have h := hx ▸ hρ x
  have e3 := rel_v (hz ▸ hρ z)
  generalize e1 : ρ x = v at h
  cases h with
  | mk t m b c ht =>
    refine ⟨.slice (some ⟨b, 0, none⟩) 0 c, ?_, fun w' _ _ => ?_⟩
    · refine .sl E.k [] (some t) b 0 0 c (fun _ => undef) E.pos (by simp) (Nat.zero_le _) (fun m hm => by simp) (fun j hj => by simp at hj) (fun j hj => by simp at hj) (fun t' h => ?_)
      cases h
      exact ⟨by rw [ht, hk]; simp, rfl⟩
    · subst hn'
      have hb : ∀ top code w, (Instr.sliceBound (.int q' 0) top code).run P w = .ok 0 w := fun top code w => run_bound (m := 0) rfl (Nat.zero_le _) w
      simp only [execOp, e1, e3, Option.map_some, Option.map_none, Instr.sliceAt, Instr.slice, Instr.sliceBounds, run_underlying hT, Sem.run_bind, Sem.run_pure, Result.andThen_ok, hb, run_sizeOf hsz]
      by_cases hc : c = 0 <;> simp [hc, addr_add]

theorem opS_cap_nil {El T2 : TypeId} (hT : P.underlying T = some (.slice El)) (hx : opv e x = nilS) : OpS P ⟨d, .call ⟨.builtin .cap, #[x], #[T]⟩, T2, pos, after, g⟩ e (i64 0) := fun I w ρ hρ => by
  have e1 := rel_v (hx ▸ hρ x)
  refine ⟨_, .v _, fun w' _ _ => ?_⟩
  simp only [execOp, resolve, List.map_toArray, List.map_cons, List.map_nil, e1, Sem.run_bind, Sem.run_pure, Result.andThen_ok, invoke, builtin, Builtin.cap_, List.getElem?_toArray, List.getElem?_cons_zero, run_underlying hT]
  rfl

/-- 'copy' into what has no elements. -/
theorem opS_copy_zero {α : Type} {E : Enc α} {t : Option Nat} {El T2 T3 : TypeId} (hT : P.underlying T = some (.slice El)) (hsz : cellsAt P El = some E.k) (hx : opv e x = slE E [] t) (hy : opv e y = nilS) :
    OpS P ⟨d, .call ⟨.builtin .copy, #[x, y], #[T, T2]⟩, T3, pos, after, g⟩ e (i64 0) := fun I w ρ hρ => by
  obtain ⟨a, cap, xs, e1, hcap, hrl, hor⟩ := rel_slE (hx ▸ hρ x)
  have e2 := rel_v (hy ▸ hρ y)
  refine ⟨_, .v _, fun w' _ _ => exec_copy ?_⟩
  rw [e1, e2]
  have hst : ∀ b : Addr, (storeCells b ([] : List Value)).run P w' = .ok () w' := fun b => rfl
  cases a with
  | none => simp [Builtin.copy_, run_underlying hT, run_sizeOf hsz, Builtin.lenOf, Builtin.firstCells]; rfl
  | some a => simp [Builtin.copy_, run_underlying hT, run_sizeOf hsz, Builtin.lenOf, Builtin.firstCells, hst]; rfl

/-- A value in an interface. -/
theorem opS_makeInterface {a : AV} {D : TypeDesc} {T2 : TypeId} (hT : P.underlying T = some D) (hD : (match D with | .interface _ => true | _ => false) = false) (hx : opv e x = a) : OpS P ⟨d, .makeInterface T x, T2, pos, after, g⟩ e (.ifc T a) := fun I w ρ hρ => by
  refine ⟨_, .ifc T a _ (hx ▸ hρ x), fun w' _ _ => ?_⟩
  cases D <;> first | (exfalso; simp at hD; done) | simp only [execOp, Instr.makeInterface, Sem.run_bind, run_underlying hT, Result.andThen_ok, Sem.run_pure]

theorem equalIn_ifc {n : Nat} {ms : List Method} {t : TypeId} {v : Value} (w : World) {D : TypeDesc} (hT : P.underlying T = some D) (hD : (match D with | .interface _ => true | _ => false) = true) : (Op.equalIn (n + 1) T (.iface t v) .nilIface).run P w = .ok false w := by
  cases D <;> first | (exfalso; simp at hD; done) | simp only [Op.equalIn, Sem.run_bind, run_underlying hT, Result.andThen_ok, Sem.run_pure]
end
end Go.Av
