/-
  Objects of the call's own: new ones, arrays and slices in them, copies; rows that are made. No program is spoken of.
-/
import Derived.Test.YtjhlnhipjomdeaaGreatDoorAvMost
import Derived.Lib.UnsafeStr
set_option linter.unusedVariables false
set_option linter.unusedSimpArgs false
namespace Go.Av
open Go.RowKit

/-- A type's zero cells. -/
def zeroCells (P : Program) (t : TypeId) : Option (List Value) := (P.info? t).bind fun i => i.zero.map fun z => z.cells.toList

theorem run_zeroValue {P : Program} {t : TypeId} {zs : List Value} (h : zeroCells P t = some zs) (w : World) : ∃ z, (zeroValue t).run P w = .ok z w ∧ z.cells.toList = zs := by
  unfold zeroCells at h
  obtain ⟨i, hi, h⟩ := Option.bind_eq_some_iff.1 h
  obtain ⟨z, hz, rfl⟩ := Option.map_eq_some_iff.1 h
  exact ⟨z, by simp [zeroValue, typeInfo, program, hi, hz, Sem.run], rfl⟩

theorem relL_vals {I : Info} {w : World} : ∀ zs : List Value, RelL I w (zs.map AV.v) zs
  | [] => RelL.nil
  | z :: zs => RelL.cons (.v z) (relL_vals zs)

section
variable {P : Program} {I : Info} {w : World} {e : Env} {d : Option Nat} {T : TypeId} {pos : String} {after : Array Edge} {g : Option (Nat × Bool)} {x y : Operand} {av : AV} {A : List Chunk}

/-- A new object that holds its type's zero value. -/
theorem opX_alloc {zs : List Value} {T2 : TypeId} (hz : zeroCells P T = some zs) : OpX P ⟨d, .alloc T, T2, pos, after, g⟩ e A (fun av A' => ∃ o, av = .pt o 0 ∧ A' = .obj o (zs.map AV.v) :: A) := fun F I w ρ hI hρ => by
  obtain ⟨o, ho⟩ := hI.fresh_obj
  obtain ⟨z, hrun, rfl⟩ := run_zeroValue hz w
  refine ⟨_, .pointer (some ⟨w.heap.size, 0, none⟩), _, _, _, _, ?_, .inl rfl, hI.new_obj ho _, hI.alloc_obj ho T (relL_vals _), .pt o 0 _ (by simp [Info.putObj]), o, rfl, rfl⟩
  simp only [execOp, Instr.alloc, newVar, newRow, Sem.run_bind, Sem.run_pure, hrun, run_newObj_alloc, Result.andThen_ok]

/-- A struct or an array of an object, read whole. -/
theorem opR_load_agg {o off i n : Nat} {cs : List AV} {D : TypeDesc} {T2 : TypeId} (hT : P.underlying T = some D) (hD : aggDesc D = true) (hsz : cellsAt P T = some n) (hx : opv e x = .pt o off) (hA : A[i]? = some (.obj o cs)) (hn : off + n ≤ cs.length) :
    OpR P ⟨d, .load T x, T2, pos, after, g⟩ e A (.agg ((cs.drop off).take n)) A := fun F I w ρ hI hρ => by
  have h := hx ▸ hρ x
  generalize e1 : ρ x = v at h
  cases h with
  | pt o off b ho =>
    obtain ⟨b', arr, ho', he, hca, hrl⟩ := hI.holds _ (mem_app hA F)
    rw [ho] at ho'; cases ho'
    have hl : (loadCells ⟨b, off, none⟩ n).run P w = .ok ((List.range n).map fun j => arr.getD (off + j) undef).toArray w := run_loadCells w _ n _ (fun j hj => by
      rw [addr_add, hca.cell, List.getElem?_eq_getElem (by rw [hrl.1]; omega)]
      simp [List.getD, show off + j < arr.length by rw [hrl.1]; omega])
    refine ⟨_, _, w, I, ?_, .inl rfl, Ext.refl _ _, hI, .agg _ ((List.range n).map fun j => arr.getD (off + j) undef) (by simp; omega) (fun j hj => ?_)⟩
    · simp only [execOp, e1, Instr.loadAt, Instr.sureAddr, Sem.run_bind, Sem.run_pure, Result.andThen_ok, loadVar, run_isAgg hT hD, if_true, run_sizeOf hsz, hl]
    · have hj' : j < n := by simp at hj; omega
      have : ((List.range n).map fun j => arr.getD (off + j) undef).getD j undef = arr.getD (off + j) undef := by simp [List.getD, hj']
      rw [this, List.getElem_take, List.getElem_drop]
      exact hrl.2 _ (by omega)

/-- An array's element. -/
theorem opS_indexAddr_arr {o off k len : Nat} {q : IntKind} {n : Int} {m : Nat} {El Ar T2 : TypeId} (hT : P.underlying T = some (.array len El)) (hsz : cellsAt P El = some k) (hx : opv e x = .pt o off) (hy : opv e y = .v (.int q n)) (hm : n = m) (ha : m < len) :
    OpS P ⟨d, .indexAddr T x y, T2, pos, after, g⟩ e (.pt o (off + m * k)) := fun I w ρ hρ => by
  have h := hx ▸ hρ x
  have e2 := rel_v (hy ▸ hρ y)
  generalize e1 : ρ x = v at h
  cases h with
  | pt o off b ho =>
    refine ⟨.pointer (some ⟨b, off + m * k, none⟩), .pt _ _ b ho, fun w' _ _ => ?_⟩
    subst hm
    simp only [execOp, e1, e2, Instr.indexAt, asIntOf, Sem.run_bind, Sem.run_pure, Result.andThen_ok, run_underlying hT, Instr.sureAddr]
    rw [if_pos ⟨Int.natCast_nonneg _, by omega⟩]
    simp only [Sem.run_bind, run_sizeOf hsz, Result.andThen_ok, Sem.run_pure, Int.toNat_natCast, addr_add]
theorem opS_indexAddr_arr_cp {cs : List AV} {k len : Nat} {q : IntKind} {n : Int} {m : Nat} {El T2 : TypeId} (hT : P.underlying T = some (.array len El)) (hsz : cellsAt P El = some k) (hx : opv e x = .cp cs) (hy : opv e y = .v (.int q n)) (hm : n = m) (ha : m < len) (hl : m * k ≤ cs.length) :
    OpS P ⟨d, .indexAddr T x y, T2, pos, after, g⟩ e (.cp (cs.drop (m * k))) := fun I w ρ hρ => by
  have h := hx ▸ hρ x
  have e2 := rel_v (hy ▸ hρ y)
  generalize e1 : ρ x = v at h
  cases h with
  | cp cs b off xs hst hc hr =>
    refine ⟨.pointer (some ⟨b, off + m * k, none⟩), .cp _ b _ (fun j => xs (m * k + j)) (hst.le (by simp; omega)) (fun j hj => ?_) (fun j hj => ?_), fun w' _ _ => ?_⟩
    · simp at hj; rw [Nat.add_assoc]; exact hc _ (by omega)
    · simp at hj; rw [List.getElem_drop]; exact hr _ (by omega)
    · subst hm
      simp only [execOp, e1, e2, Instr.indexAt, asIntOf, Sem.run_bind, Sem.run_pure, Result.andThen_ok, run_underlying hT, Instr.sureAddr]
      rw [if_pos ⟨Int.natCast_nonneg _, by omega⟩]
      simp only [Sem.run_bind, run_sizeOf hsz, Result.andThen_ok, Sem.run_pure, Int.toNat_natCast, addr_add]

/-- An array as a slice. -/
theorem opS_slice_arr {o off k len : Nat} {El T2 : TypeId} (hT : P.underlying T = some (.array len El)) (hsz : cellsAt P El = some k) (hx : opv e x = .pt o off) :
    OpS P ⟨d, .slice T x none none none, T2, pos, after, g⟩ e (.vw o off len len) := fun I w ρ hρ => by
  have h := hx ▸ hρ x
  generalize e1 : ρ x = v at h
  cases h with
  | pt o off b ho =>
    refine ⟨.slice (some ⟨b, off, none⟩) len len, .vw _ _ _ _ b ho, fun w' _ _ => ?_⟩
    simp only [execOp, e1, Option.map_none, Instr.sliceAt, Instr.sliceBounds, Sem.run_bind, Sem.run_pure, Result.andThen_ok, run_underlying hT, Instr.sureAddr, run_sizeOf hsz]
    simp [addr_add]

theorem opS_len_vw {o off len cap : Nat} {El T2 : TypeId} (hT : P.underlying T = some (.slice El)) (hx : opv e x = .vw o off len cap) : OpS P ⟨d, .call ⟨.builtin .len, #[x], #[T]⟩, T2, pos, after, g⟩ e (i64 len) := fun I w ρ hρ => by
  have h := hx ▸ hρ x
  generalize e1 : ρ x = v at h
  cases h with
  | vw o off len cap b ho =>
    refine ⟨_, .v _, fun w' _ _ => ?_⟩
    simp only [execOp, resolve, List.map_toArray, List.map_cons, List.map_nil, e1, Sem.run_bind, Sem.run_pure, Result.andThen_ok, invoke, builtin, Builtin.len_, List.getElem?_toArray, List.getElem?_cons_zero, run_underlying hT]
    rfl

theorem opS_indexAddr_vw {o off len cap k : Nat} {q : IntKind} {n : Int} {m : Nat} {El T2 : TypeId} (hT : P.underlying T = some (.slice El)) (hsz : cellsAt P El = some k) (hx : opv e x = .vw o off len cap) (hy : opv e y = .v (.int q n)) (hm : n = m) (ha : m < len) :
    OpS P ⟨d, .indexAddr T x y, T2, pos, after, g⟩ e (.pt o (off + m * k)) := fun I w ρ hρ => by
  have h := hx ▸ hρ x
  have e2 := rel_v (hy ▸ hρ y)
  generalize e1 : ρ x = v at h
  cases h with
  | vw o off len cap b ho =>
    refine ⟨.pointer (some ⟨b, off + m * k, none⟩), .pt _ _ b ho, fun w' _ _ => ?_⟩
    subst hm
    simp only [execOp, e1, e2, Instr.indexAt, asIntOf, Sem.run_bind, Sem.run_pure, Result.andThen_ok, run_underlying hT]
    rw [if_pos ⟨Int.natCast_nonneg _, by omega⟩]
    simp only [Sem.run_bind, run_sizeOf hsz, Result.andThen_ok, Sem.run_pure, Int.toNat_natCast, addr_add]

/-- A piece of a slice of one's own. -/
theorem opS_slice_vw {o off len cap k : Nat} {q q' : IntKind} {n n' : Int} {lo hi : Nat} {z : Operand} {El T2 : TypeId} (hT : P.underlying T = some (.slice El)) (hsz : cellsAt P El = some k) (hx : opv e x = .vw o off len cap)
    (hy : opv e y = .v (.int q n)) (hz : opv e z = .v (.int q' n')) (hn : n = lo) (hn' : n' = hi) (h1 : lo ≤ hi) (h2 : hi ≤ cap) (h3 : lo < cap) :
    OpS P ⟨d, .slice T x (some y) (some z) none, T2, pos, after, g⟩ e (.vw o (off + lo * k) (hi - lo) (cap - lo)) := fun I w ρ hρ => by
  have h := hx ▸ hρ x
  have e2 := rel_v (hy ▸ hρ y)
  have e3 := rel_v (hz ▸ hρ z)
  generalize e1 : ρ x = v at h
  cases h with
  | vw o off len cap b ho =>
    refine ⟨.slice (some ⟨b, off + lo * k, none⟩) (hi - lo) (cap - lo), .vw _ _ _ _ b ho, fun w' _ _ => ?_⟩
    simp only [execOp, e1, e2, e3, Option.map_some, Option.map_none, Instr.sliceAt, Instr.slice, Instr.sliceBounds, run_underlying hT, Sem.run_bind, Sem.run_pure, Result.andThen_ok, run_bound hn' h2, run_bound hn h1, run_sizeOf hsz]
    rw [if_neg (by omega)]
    simp [addr_add]
theorem opS_slice_vw_to {o off len cap k : Nat} {q' : IntKind} {n' : Int} {hi : Nat} {z : Operand} {El T2 : TypeId} (hT : P.underlying T = some (.slice El)) (hsz : cellsAt P El = some k) (hx : opv e x = .vw o off len cap)
    (hz : opv e z = .v (.int q' n')) (hn' : n' = hi) (h2 : hi ≤ cap) :
    OpS P ⟨d, .slice T x none (some z) none, T2, pos, after, g⟩ e (.vw o off hi cap) := fun I w ρ hρ => by
  have h := hx ▸ hρ x
  have e3 := rel_v (hz ▸ hρ z)
  generalize e1 : ρ x = v at h
  cases h with
  | vw o off len cap b ho =>
    refine ⟨.slice (some ⟨b, off, none⟩) hi cap, .vw _ _ _ _ b ho, fun w' _ _ => ?_⟩
    simp only [execOp, e1, e3, Option.map_some, Option.map_none, Instr.sliceAt, Instr.slice, Instr.sliceBounds, run_underlying hT, Sem.run_bind, Sem.run_pure, Result.andThen_ok, run_bound hn' h2, run_sizeOf hsz]
    by_cases hc : cap = 0 <;> simp [hc, addr_add]
theorem opS_slice_vw_from {o off len cap k : Nat} {q : IntKind} {n : Int} {lo : Nat} {El T2 : TypeId} (hT : P.underlying T = some (.slice El)) (hsz : cellsAt P El = some k) (hx : opv e x = .vw o off len cap)
    (hy : opv e y = .v (.int q n)) (hn : n = lo) (h1 : lo ≤ len) (h3 : lo < cap) (h4 : len ≤ cap) :
    OpS P ⟨d, .slice T x (some y) none none, T2, pos, after, g⟩ e (.vw o (off + lo * k) (len - lo) (cap - lo)) := fun I w ρ hρ => by
  have h := hx ▸ hρ x
  have e2 := rel_v (hy ▸ hρ y)
  generalize e1 : ρ x = v at h
  cases h with
  | vw o off len cap b ho =>
    refine ⟨.slice (some ⟨b, off + lo * k, none⟩) (len - lo) (cap - lo), .vw _ _ _ _ b ho, fun w' _ _ => ?_⟩
    simp only [execOp, e1, e2, Option.map_some, Option.map_none, Instr.sliceAt, Instr.slice, Instr.sliceBounds, run_underlying hT, Sem.run_bind, Sem.run_pure, Result.andThen_ok, run_bound hn h1, run_sizeOf hsz]
    rw [if_neg (by omega)]
    simp [addr_add]

/-! ### Stores of several cells -/

theorem Inv.set_all {o : Nat} {b : Nat} : ∀ (vs : List AV) (us : List Value) (off : Nat) (cs : List AV) (w : World), Inv I (.obj o cs :: A) w → I.obj o = some b → RelL I w vs us → off + vs.length ≤ cs.length →
    Ext I w I (w.setCells b off us) ∧ Inv I (.obj o (setAll cs off vs) :: A) (w.setCells b off us)
  | [], us, off, cs, w, hI, ho, hr, hl => by
    have : us = [] := hr.out_nil
    subst this
    refine ⟨Ext.refl _ _, ?_⟩
    have : setAll cs off [] = cs := by simp [setAll]
    rw [this]; exact hI
  | v :: vs, us, off, cs, w, hI, ho, hr, hl => by
    obtain ⟨u, us', rfl, h1, h2⟩ := hr.out_cons
    simp only [List.length_cons] at hl
    obtain ⟨E, hI2⟩ := hI.set_obj ho off h1
    obtain ⟨E3, hI3⟩ := Inv.set_all vs us' (off + 1) (cs.set off v) _ hI2 ho (h2.mono E) (by simp; omega)
    refine ⟨E.trans E3, ?_⟩
    have : setAll (cs.set off v) (off + 1) vs = setAll cs off (v :: vs) := by
      unfold setAll
      rw [List.take_succ_eq_append_getElem (by simp; omega), List.take_set_of_le (by omega), List.drop_set_of_lt (by omega)]
      simp
      congr 1; omega
    rw [this] at hI3
    exact hI3

theorem RelL.one {vs : List AV} {us : List Value} (h : RelL I w vs us) (hc : ∀ c ∈ vs, isCell c = true) : ∀ u ∈ us, u.oneCell' = true := by
  intro u hu
  obtain ⟨j, hj, rfl⟩ := List.getElem_of_mem hu
  have hj' : j < vs.length := by rw [← h.1]; exact hj
  have := h.2 j hj'
  rw [show us.getD j undef = us[j] by simp [List.getD, hj]] at this
  exact rel_oneCell this (hc _ (List.getElem_mem hj'))

theorem run_storeObj {o b off : Nat} {cs vs : List AV} {us : List Value} (hI : Inv I (.obj o cs :: A) w) (ho : I.obj o = some b) (hr : RelL I w vs us) (hc : ∀ c ∈ vs, isCell c = true) (hl : off + vs.length ≤ cs.length) :
    (storeCells ⟨b, off, none⟩ us).run P w = .ok () (w.setCells b off us) := by
  obtain ⟨b', arr, ho', he, hca, hrl⟩ := hI.holds _ (List.mem_cons_self ..)
  rw [ho] at ho'; cases ho'
  have := run_storeCells_cells (P := P) b off us 0 w (fun j hj => ?_) (fun j hj => ?_) (hr.one hc)
  · simpa using this
  · rw [hca.cell]; simp only [Nat.add_zero]; rw [List.getElem?_eq_getElem (by rw [hrl.1]; have := hr.1; omega)]; rfl
  · exact hca.free (by rw [hrl.1]; have := hr.1; omega)

/-- A struct or an array is stored in an object. -/
theorem opR_store_agg {o off i : Nat} {cs vs : List AV} {T2 : TypeId} (hsz : cellsAt P T = some vs.length) (hx : opv e x = .pt o off) (hy : opv e y = .agg vs) (hcell : ∀ c ∈ vs, isCell c = true) (hA : A[i]? = some (.obj o cs)) (hoff : off + vs.length ≤ cs.length) :
    OpR P ⟨d, .store T x y, T2, pos, after, g⟩ e A .any (A.set i (.obj o (setAll cs off vs))) := fun F I w ρ hI hρ => by
  have h := hx ▸ hρ x
  have hv := hy ▸ hρ y
  generalize e1 : ρ x = v at h
  generalize e2 : ρ y = u at hv
  cases h with
  | pt o off b ho =>
    cases hv with
    | agg vs us hl hr =>
      have hrl : RelL I w vs us := ⟨hl, hr⟩
      have hI2 := hI.take_at hA
      obtain ⟨E, hI3⟩ := Inv.set_all vs us off cs w hI2 ho hrl hoff
      refine ⟨.skip, undef, _, I, ?_, .inr ⟨rfl, rfl⟩, E, Inv.put_at hA hI3, .any _⟩
      have hst := run_storeObj (P := P) hI2 ho hrl hcell hoff
      simp only [execOp, e1, e2, Instr.storeAt, Instr.sureAddr, Sem.run_bind, Sem.run_pure, Result.andThen_ok, storeVar, Value.cells, run_sizeOf hsz]
      rw [if_neg (by simp [hl])]
      simp [hst]

theorem exec_copy {T T2 T3 : TypeId} {ρ : Operand → Value} {v' : Value} {w' : World} (h : (Builtin.copy_ #[T, T2] T3 #[ρ x, ρ y]).run P w = .ok v' w') :
    (execOp ρ ⟨d, .call ⟨.builtin .copy, #[x, y], #[T, T2]⟩, T3, pos, after, g⟩).run P w = .ok (.value v') w' := by
  simp only [execOp, resolve, List.map_toArray, List.map_cons, List.map_nil, Sem.run_bind, Sem.run_pure, Result.andThen_ok, invoke, builtin, h]

theorem copy_core {F : List Chunk} {o off len cap i k m : Nat} {cs ms : List AV} {El T2 T3 : TypeId} {ρ : Operand → Value} (hT : P.underlying T = some (.slice El)) (hsz : cellsAt P El = some k) (hI : Inv I (A ++ F) w) (h : Rel I w (.vw o off len cap) (ρ x))
    (hu : Src P I w k (ρ y) ms m) (hc : ∀ c ∈ ms, isCell c = true) (hA : A[i]? = some (.obj o cs)) (hm : m ≤ len) (hl : off + ms.length ≤ cs.length) :
    ∃ w', (execOp ρ ⟨d, .call ⟨.builtin .copy, #[x, y], #[T, T2]⟩, T3, pos, after, g⟩).run P w = .ok (.value (.int .i64 m)) w' ∧ Ext I w I w' ∧ Inv I (A.set i (.obj o (setAll cs off ms)) ++ F) w' := by
  generalize e1 : ρ x = v at h
  cases h with
  | vw o off len cap b ho =>
    obtain ⟨us, hml, hrl, hlen, hfirst⟩ := hu
    have hI2 := hI.take_at hA
    obtain ⟨E, hI3⟩ := Inv.set_all ms us off cs w hI2 ho hrl hl
    refine ⟨_, exec_copy ?_, E, Inv.put_at hA hI3⟩
    have hst := run_storeObj (P := P) hI2 ho hrl hc hl
    rw [e1]
    simp only [Builtin.copy_, List.getElem?_toArray, List.getElem?_cons_zero, List.getElem?_cons_succ, run_underlying hT, Sem.run_bind, Sem.run_pure, Result.andThen_ok, run_sizeOf hsz, hlen]
    rw [show Nat.min m len = m from Nat.min_eq_left hm]
    simp only [hfirst w (fun _ _ _ => rfl), Sem.run_bind, Result.andThen_ok, hst, Sem.run_pure]
    rfl

/-- 'copy' of a slice's elements into one's own. -/
theorem opR_copy_sl {α : Type} {E : Enc α} {l : List α} {t : Option Nat} {o off len cap i : Nat} {cs : List AV} {El T2 T3 : TypeId} (hT : P.underlying T = some (.slice El)) (hsz : cellsAt P El = some E.k) (hx : opv e x = .vw o off len cap) (hy : opv e y = slE E l t)
    (hA : A[i]? = some (.obj o cs)) (hm : l.length ≤ len) (hl : off + l.length * E.k ≤ cs.length) :
    OpR P ⟨d, .call ⟨.builtin .copy, #[x, y], #[T, T2]⟩, T3, pos, after, g⟩ e A (i64 l.length) (A.set i (.obj o (setAll cs off (E.fl l)))) := fun F I w ρ hI hρ => by
  obtain ⟨w', h1, h2, h3⟩ := copy_core (d := d) (pos := pos) (after := after) (g := g) (T2 := T2) (T3 := T3) hT hsz hI (hx ▸ hρ x) (src_sl (hy ▸ hρ y)) (E.fl_cell l) hA hm (by rw [E.fl_length]; exact hl)
  exact ⟨_, _, w', I, h1, .inl rfl, h2, h3, .v _⟩
theorem opR_copy_nil {o off len cap i k : Nat} {cs : List AV} {El T2 T3 : TypeId} (hT : P.underlying T = some (.slice El)) (hsz : cellsAt P El = some k) (hx : opv e x = .vw o off len cap) (hy : opv e y = nilS)
    (hA : A[i]? = some (.obj o cs)) (hl : off ≤ cs.length) :
    OpR P ⟨d, .call ⟨.builtin .copy, #[x, y], #[T, T2]⟩, T3, pos, after, g⟩ e A (i64 0) A := fun F I w ρ hI hρ => by
  have e2 := rel_v (hy ▸ hρ y)
  obtain ⟨w', h1, h2, h3⟩ := copy_core (d := d) (pos := pos) (after := after) (g := g) (T2 := T2) (T3 := T3) hT hsz hI (hx ▸ hρ x) (by rw [e2]; exact src_nil) (by simp) hA (Nat.zero_le _) (by simpa using hl)
  have : A.set i (.obj o (setAll cs off [])) = A := by
    have h0 : setAll cs off [] = cs := by simp [setAll]
    rw [h0]; exact List.set_getElem?_self' hA
  rw [this] at h3
  exact ⟨_, _, w', I, h1, .inl rfl, h2, h3, .v _⟩
/-- 'copy' of a text's bytes. -/
theorem opR_copy_str {s : List UInt8} {o off len cap i : Nat} {cs : List AV} {El T2 T3 : TypeId} (hT : P.underlying T = some (.slice El)) (hsz : cellsAt P El = some 1) (hx : opv e x = .vw o off len cap) (hy : opv e y = S s)
    (hA : A[i]? = some (.obj o cs)) (hm : s.length ≤ len) (hl : off + s.length ≤ cs.length) :
    OpR P ⟨d, .call ⟨.builtin .copy, #[x, y], #[T, T2]⟩, T3, pos, after, g⟩ e A (i64 s.length) (A.set i (.obj o (setAll cs off (Enc.byte.fl s)))) := fun F I w ρ hI hρ => by
  have e2 := rel_v (hy ▸ hρ y)
  obtain ⟨w', h1, h2, h3⟩ := copy_core (d := d) (pos := pos) (after := after) (g := g) (T2 := T2) (T3 := T3) hT hsz hI (hx ▸ hρ x) (by rw [e2]; exact src_str) (Enc.byte.fl_cell s) hA hm (by rw [Enc.fl_length]; simpa [Enc.byte] using hl)
  exact ⟨_, _, w', I, h1, .inl rfl, h2, h3, .v _⟩

/-! ### 'make' -/

/-- So many elements' zero cells. -/
def zeroRow (zs : List Value) (n : Nat) : List Value := (List.range n).map fun i => zs.getD (i % zs.length) undef
theorem zeroRow_one (z : Value) (n : Nat) : zeroRow [z] n = List.replicate n z := by
  unfold zeroRow
  simp only [List.length_cons, List.length_nil, Nat.zero_add, Nat.mod_one, List.getD, List.getElem?_cons_zero, Option.getD_some, List.map_const', List.length_range]

theorem made_eq (z : Value) (cap k : Nat) (hk : z.cells.size = k) : madeCells z.cells (cap * k) = (zeroRow z.cells.toList (cap * k)).toArray := by
  apply Array.ext'
  simp only [madeCells, zeroRow, Array.toList_map, Array.toList_range]
  refine List.map_congr_left fun j hj => ?_
  have hj' : j < cap * k := by simpa using hj
  have hk0 : 0 < k := Nat.pos_of_ne_zero fun h => by rw [h, Nat.mul_zero] at hj'; omega
  have hlt : j % z.cells.size < z.cells.size := Nat.mod_lt _ (by omega)
  rw [getElem!_pos z.cells _ hlt]
  simp [List.getD, hlt]

theorem make_core {ρ : Operand → Value} {El T2 k bytes len cap : Nat} (hT : P.underlying T = some (.slice El)) (hE : elemInfo P El = some (k, bytes)) (e1 : ρ x = .int .i64 len) (e2 : ρ y = .int .i64 cap) (hle : len ≤ cap) (hb : cap * bytes ≤ 140737488355328) (hc : cap ≤ 140737488355328) (w : World) :
    ∃ zs : List Value, zeroCells P El = some zs ∧ zs.length = k ∧ (execOp ρ ⟨d, .makeSlice T x y, T2, pos, after, g⟩).run P w = .ok (.value (.slice (some ⟨w.heap.size, 0, none⟩) len cap)) (w.alloc (.cells (zeroRow zs (cap * k)).toArray El)) := by
  obtain ⟨i, z, hi, hz, hzs, hsz, hby⟩ := elemInfo_parts hE
  refine ⟨z.cells.toList, by simp [zeroCells, hi, hz], by simpa using hzs, ?_⟩
  have hbi : ((i.bytes : Nat) : Int) * (cap : Int) ≤ 281474976710656 := by
    have h : ((i.bytes * cap : Nat) : Int) ≤ 281474976710656 := by rw [hby, Nat.mul_comm]; omega
    rwa [Int.natCast_mul] at h
  have hr := run_make (P := P) w T El i z hT hi hz .i64 .i64 len cap (by omega) (by omega) hbi (by omega)
  simp only [Int.toNat_natCast, hsz, made_eq z cap k hzs] at hr
  simp only [execOp, e1, e2, Sem.run_bind, hr, Result.andThen_ok, Sem.run_pure]

/-- A slice is made: an object of one's own, and a view of it. -/
theorem opX_make {El T2 k bytes len cap : Nat} {n n' : Int} {zs : List Value} (hT : P.underlying T = some (.slice El)) (hE : elemInfo P El = some (k, bytes)) (hz : zeroCells P El = some zs) (hx : opv e x = i64 n) (hy : opv e y = i64 n') (hn : n = len) (hn' : n' = cap) (hle : len ≤ cap)
    (hb : cap * bytes ≤ 140737488355328) (hc : cap ≤ 140737488355328) :
    OpX P ⟨d, .makeSlice T x y, T2, pos, after, g⟩ e A (fun av A' => ∃ o, av = .vw o 0 len cap ∧ A' = .obj o ((zeroRow zs (cap * k)).map AV.v) :: A) := fun F I w ρ hI hρ => by
  obtain ⟨o, ho⟩ := hI.fresh_obj
  subst hn; subst hn'
  obtain ⟨zs', hz', hzl, hrun⟩ := make_core (d := d) (pos := pos) (after := after) (g := g) (T2 := T2) hT hE (rel_v (hx ▸ hρ x)) (rel_v (hy ▸ hρ y)) hle hb hc w
  rw [hz] at hz'; cases hz'
  exact ⟨_, _, _, _, _, _, hrun, .inl rfl, hI.new_obj ho _, hI.alloc_obj ho El (relL_vals _), .vw o 0 _ _ _ (by simp [Info.putObj]), o, rfl, rfl⟩

/-- A slice without elements is made, with room: a row that may grow. -/
theorem opX_makeRow {El T2 k bytes cap : Nat} {n n' : Int} (hT : P.underlying T = some (.slice El)) (hE : elemInfo P El = some (k, bytes)) (hx : opv e x = i64 n) (hy : opv e y = i64 n') (hn : n = 0) (hn' : n' = cap) (hk : 0 < k)
    (hb : cap * bytes ≤ 140737488355328) (hc : cap ≤ 140737488355328) :
    OpX P ⟨d, .makeSlice T x y, T2, pos, after, g⟩ e A (fun av A' => ∃ t, av = .sl k [] (some t) ∧ A' = .tok t El :: A) := fun F I w ρ hI hρ => by
  obtain ⟨t, ht⟩ := hI.fresh_tok
  subst hn; subst hn'
  obtain ⟨zs, hz, hzl, hrun⟩ := make_core (d := d) (pos := pos) (after := after) (g := g) (T2 := T2) (len := 0) hT hE (rel_v (hx ▸ hρ x)) (rel_v (hy ▸ hρ y)) (Nat.zero_le _) hb hc w
  have hlen : (zeroRow zs (cap * k)).length = cap * k := by simp [zeroRow]
  have X := hI.new_row ht 0 (zeroRow zs (cap * k)).length (.cells (zeroRow zs (cap * k)).toArray El)
  have hI' := hI.alloc_row ht 0 (zeroRow zs (cap * k)) El (0, 0) (Nat.zero_le _) (.inl rfl)
  refine ⟨_, _, _, _, _, _, hrun, .inl rfl, X, hI', ?_, t, rfl, rfl⟩
  refine .sl k [] _ _ 0 0 cap (fun _ => undef) hk (by simp) (Nat.zero_le _) (fun m hm => ?_) (fun j hj => by simp at hj) (fun j hj => by simp at hj) (fun t' h => ?_)
  · simp
  · cases h
    exact ⟨by simp [Info.putTok, hlen], rfl⟩

/-! ### An object stands still from now on -/

def Info.frz (I : Info) (b : Nat) : Info := { I with ext := fun x => if x = b then none else I.ext x }

theorem Inv.frz {o b : Nat} {cs : List AV} (hI : Inv I (.obj o cs :: A) w) (ho : I.obj o = some b) : Ext I w (I.frz b) w ∧ Inv (I.frz b) A w := by
  obtain ⟨b', arr, ho', he, hca, hrl⟩ := hI.holds _ (List.mem_cons_self ..)
  rw [ho] at ho'; cases ho'
  have X : Ext I w (I.frz b) w := by
    refine ⟨rfl, rfl, rfl, Nat.le_refl _, fun c hc => ⟨rfl, ?_⟩, fun _ _ _ => rfl, fun c n hn => ?_, fun _ _ h => h, fun _ _ h => h, fun _ _ h => h⟩
    · simp only [Info.frz]; split
      · rfl
      · exact hc
    · intro m hm
      simp only [Info.frz] at hm
      split at hm
      · cases hm
      · exact hn m hm
  have hap := hI.apart (c := .obj o cs) (b := b) ho
  refine ⟨X, (hI.sub (List.sublist_cons_self ..)).keep X (fun c hc b' hb' => ⟨rfl, ?_⟩) (fun c hc => ?_) hI.ids⟩
  · have : b' ≠ b := fun h => hap c hc (by rw [← h]; exact hb')
    simp only [Info.frz]; rw [if_neg this]
  · have : c ≠ b := fun h => by have := hca.lt; omega
    simp only [Info.frz]; rw [if_neg this]; exact hI.fresh c hc

theorem frz_sl {o b off len cap k : Nat} {cs : List AV} {v : Value} (hI : Inv I (.obj o cs :: A) w) (ho : I.obj o = some b) (hv : Rel I w (.vw o off len cap) v) (hk : 0 < k) (hb : off + len * k ≤ cs.length) (hc : len ≤ cap) :
    Rel (I.frz b) w (.sl k ((cs.drop off).take (len * k)) none) v := by
  obtain ⟨X, _⟩ := hI.frz ho
  obtain ⟨b', arr, ho', he, hca, hrl⟩ := hI.holds _ (List.mem_cons_self ..)
  rw [ho] at ho'; cases ho'
  cases hv with
  | vw o off len cap b' h =>
    rw [ho] at h; cases h
    refine .sl k _ none b off len cap (fun j => arr.getD (off + j) undef) hk (by simp; omega) hc (fun m hm => ?_) (fun j hj => ?_) (fun j hj => ?_) (fun _ h => by cases h)
    · simp only [Info.frz, if_true] at hm; cases hm
    · simp at hj
      rw [hca.cell, List.getElem?_eq_getElem (by rw [hrl.1]; omega)]
      simp [List.getD, show off + j < arr.length by rw [hrl.1]; omega]
    · simp at hj
      rw [List.getElem_take, List.getElem_drop]
      exact (hrl.2 _ (by omega)).mono X
theorem frz_cp {o b off : Nat} {cs : List AV} {v : Value} (hI : Inv I (.obj o cs :: A) w) (ho : I.obj o = some b) (hv : Rel I w (.pt o off) v) (hb : off ≤ cs.length) : Rel (I.frz b) w (.cp (cs.drop off)) v := by
  obtain ⟨X, _⟩ := hI.frz ho
  obtain ⟨b', arr, ho', he, hca, hrl⟩ := hI.holds _ (List.mem_cons_self ..)
  rw [ho] at ho'; cases ho'
  cases hv with
  | pt o off b' h =>
    rw [ho] at h; cases h
    refine .cp _ b off (fun j => arr.getD (off + j) undef) (fun m hm => ?_) (fun j hj => ?_) (fun j hj => ?_)
    · simp only [Info.frz, if_true] at hm; cases hm
    · simp at hj
      rw [hca.cell, List.getElem?_eq_getElem (by rw [hrl.1]; omega)]
      simp [List.getD, show off + j < arr.length by rw [hrl.1]; omega]
    · simp at hj
      rw [List.getElem_drop]
      exact (hrl.2 _ (by omega)).mono X

/-- A slot's view becomes a slice that stands still. -/
theorem WK.frz_sl {N : Nat} {env : Env} {ds : List ADef} {o off len cap : Nat} {cs : List AV} {α : Type} (E : Enc α) (l : List α) (t i : Nat) (hv : ev env t = .vw o off len cap) (hA : A[i]? = some (.obj o cs)) (hl : (cs.drop off).take (len * E.k) = E.fl l) (hb : off + len * E.k ≤ cs.length) (hc : len ≤ cap) :
    WK N ⟨env, ds, A⟩ ⟨(t, slE E l none) :: env, ds, A.eraseIdx i⟩ := fun F I w a hI hS => by
  have hI2 := hI.take_at hA
  obtain ⟨b, arr, ho, he, hca, hrl⟩ := hI2.holds _ (List.mem_cons_self ..)
  obtain ⟨X, hI3⟩ := hI2.frz ho
  have hS' := hS.mono X
  refine ⟨I.frz b, X, hI3, hS.size, fun j => ?_, hS'.ds⟩
  simp only [ev]
  cases hbq : Nat.beq t j with
  | false => exact hS'.env j
  | true =>
    have := Nat.eq_of_beq_eq_true hbq
    subst this
    have hj := hS.env t
    simp only [hv] at hj
    have := Go.Av.frz_sl hI2 ho hj E.pos hb hc
    rw [hl] at this
    exact this
/-- A slot's pointer becomes one to what stands still. -/
theorem WK.frz_cp {N : Nat} {env : Env} {ds : List ADef} {o off : Nat} {cs : List AV} (t i : Nat) (hv : ev env t = .pt o off) (hA : A[i]? = some (.obj o cs)) (hb : off ≤ cs.length) :
    WK N ⟨env, ds, A⟩ ⟨(t, .cp (cs.drop off)) :: env, ds, A.eraseIdx i⟩ := fun F I w a hI hS => by
  have hI2 := hI.take_at hA
  obtain ⟨b, arr, ho, he, hca, hrl⟩ := hI2.holds _ (List.mem_cons_self ..)
  obtain ⟨X, hI3⟩ := hI2.frz ho
  have hS' := hS.mono X
  refine ⟨I.frz b, X, hI3, hS.size, fun j => ?_, hS'.ds⟩
  simp only [ev]
  cases hbq : Nat.beq t j with
  | false => exact hS'.env j
  | true =>
    have := Nat.eq_of_beq_eq_true hbq
    subst this
    have hj := hS.env t
    simp only [hv] at hj
    exact Go.Av.frz_cp hI2 ho hj hb

theorem AR.weaken {ro : Option Nat} {N : Nat} {ops : Array Oper} {Q : Post} {l : List Nat} {s s' : St} (k : WK N s s') (h : AR P ro N ops Q l s') : AR P ro N ops Q l s := fun F I w a hI hS => by
  obtain ⟨I', E, hI', hS'⟩ := k F I w a hI hS
  exact wpOpsIn_mono' l (fun _ _ _ => CQ.mono E fun _ _ h => h) _ _ (h F I' w a hI' hS')
end
end Go.Av
