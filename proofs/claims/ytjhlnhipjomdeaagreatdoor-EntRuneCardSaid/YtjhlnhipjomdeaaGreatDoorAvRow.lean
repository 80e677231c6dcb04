/-
  Rows that grow, pieces of slices, conversions, values that are built. No program is spoken of.
-/
import Derived.Test.YtjhlnhipjomdeaaGreatDoorAvMem
set_option linter.unusedVariables false
set_option linter.unusedSimpArgs false
namespace Go.Av
open Go.RowKit

def elemInfo (P : Program) (t : TypeId) : Option (Nat × Nat) :=
  (P.info? t).bind fun i => i.zero.bind fun z => if z.cells.size = i.size then some (i.size, i.bytes) else none

theorem elemInfo_parts {P : Program} {t k b : Nat} (h : elemInfo P t = some (k, b)) : ∃ i z, P.info? t = some i ∧ i.zero = some z ∧ z.cells.size = k ∧ i.size = k ∧ i.bytes = b := by
  unfold elemInfo at h
  obtain ⟨i, hi, h⟩ := Option.bind_eq_some_iff.1 h
  obtain ⟨z, hz, h⟩ := Option.bind_eq_some_iff.1 h
  split at h
  · rename_i hc
    simp only [Option.some.injEq, Prod.mk.injEq] at h
    exact ⟨i, z, hi, hz, hc.trans h.1, h.1, h.2⟩
  · cases h

def intDesc : TypeDesc → Bool
  | .int _ => true
  | _ => false

theorem notInt {D : TypeDesc} (h : intDesc D = false) : (match D with | .int _ => true | _ => false) = false := by cases D <;> first | rfl | cases h

/-- What may be appended: a slice, or a text's bytes. -/
def Src (P : Program) (I : Info) (w : World) (k : Nat) (u : Value) (ms : List AV) (m : Nat) : Prop :=
  ∃ xs, ms.length = m * k ∧ RelL I w ms xs ∧ (∀ w', (Builtin.lenOf u).run P w' = .ok m w') ∧
    ∀ w', (∀ b j, Stab I b (j + 1) → w'.cell? ⟨b, j, none⟩ = w.cell? ⟨b, j, none⟩) → (Builtin.firstCells k m u).run P w' = .ok xs.toArray w'

section
variable {P : Program} {I : Info} {w : World}

theorem src_sl {α : Type} {E : Enc α} {l : List α} {t : Option Nat} {u : Value} (h : Rel I w (slE E l t) u) : Src P I w E.k u (E.fl l) l.length := by
  obtain ⟨a, cap, xs, rfl, hcap, hrl, hor⟩ := rel_slE h
  refine ⟨xs, E.fl_length l, hrl, fun w' => rfl, fun w' hw => ?_⟩
  rcases hor with h0 | ⟨b, off, rfl, hst, hc⟩
  · have : xs = [] := List.eq_nil_of_length_eq_zero (by rw [hrl.1, E.fl_length, h0, Nat.zero_mul])
    subst this
    rw [h0]
    cases a with
    | none => exact run_firstCells_none ..
    | some a =>
      simp only [Builtin.firstCells, Nat.zero_mul]
      rfl
  · refine run_firstCells_some _ E.k l.length _ _ _ xs (by rw [hrl.1, E.fl_length]) (fun j v hj => ?_)
    have hlt : j < xs.length := (List.getElem?_eq_some_iff.1 hj).1
    rw [hrl.1] at hlt
    rw [addr_add, hw b (off + j) (hst.le (by omega)), hc j hlt]
    simp [List.getD, hj]
theorem src_nil {k : Nat} : Src P I w k (.slice none 0 0) [] 0 := ⟨[], by simp, RelL.nil, fun _ => rfl, fun _ _ => run_firstCells_none ..⟩
theorem src_str {s : List UInt8} : Src P I w 1 (.string ⟨s.toArray⟩) (Enc.byte.fl s) s.length := by
  refine ⟨s.map fun b => .int .u8 b.toNat, Enc.byte.fl_length s, ?_, fun w' => ?_, fun w' _ => ?_⟩
  · have : Enc.byte.fl s = s.map fun c => u8 c := by
      induction s with
      | nil => rfl
      | cons c s ih => rw [Enc.fl_cons, ih]; rfl
    rw [this]
    exact RelL.map _ _ _ fun x _ => .v _
  · simp [Builtin.lenOf, ByteArray.size]
  · have h1 : (⟨s.toArray⟩ : ByteArray).extract 0 s.length = ⟨s.toArray⟩ := by rw [extract_mk]; simp
    simp only [Builtin.firstCells, Sem.run_pure, h1]
    simp

theorem setCells_heap_ne (b : Nat) : ∀ (vs : List Value) (o : Nat) (w : World) (b' : Nat), b' ≠ b → (w.setCells b o vs).heap[b']? = w.heap[b']?
  | [], _, _, _, _ => rfl
  | v :: r, o, w, b', h => by rw [World.setCells, setCells_heap_ne b r _ _ _ h, heap_setCell_ne _ _ _ _ h]
theorem setCells_at (b : Nat) : ∀ (vs : List Value) (o : Nat) (w : World) (arr : List Value), CellsAt w b arr → ∃ arr', CellsAt (w.setCells b o vs) b arr' ∧ arr'.length = arr.length
  | [], _, w, arr, h => ⟨arr, h, rfl⟩
  | v :: r, o, w, arr, h => by
    obtain ⟨arr', h', hl⟩ := setCells_at b r (o + 1) _ _ (heap_setCell_eq h o v)
    exact ⟨arr', h', by rw [hl]; simp⟩
theorem setCells_elem (b : Nat) : ∀ (vs : List Value) (o : Nat) (w : World) (E : TypeId), ElemAt w b E → ElemAt (w.setCells b o vs) b E
  | [], _, w, E, h => h
  | v :: r, o, w, E, h => setCells_elem b r (o + 1) _ E (h.setCell _ _)
theorem setCells_rest (b : Nat) : ∀ (vs : List Value) (o : Nat) (w : World), (w.setCells b o vs).os = w.os ∧ (w.setCells b o vs).tape = w.tape ∧ (w.setCells b o vs).output = w.output ∧ (w.setCells b o vs).heap.size = w.heap.size
  | [], _, w => ⟨rfl, rfl, rfl, rfl⟩
  | v :: r, o, w => by
    obtain ⟨h1, h2, h3, h4⟩ := setCells_rest b r (o + 1) (w.setCell ⟨b, o, none⟩ v)
    exact ⟨h1, h2, h3, h4.trans (by simp)⟩

theorem relL_getD {cs : List AV} {xs ys : List Value} (h : RelL I w cs xs) (hy : ∀ j, j < cs.length → ys.getD j undef = xs.getD j undef) (j : Nat) (hj : j < cs.length) : Rel I w cs[j] (ys.getD j undef) := by rw [hy j hj]; exact h.2 j hj

/-- **Append to what may grow.** -/
theorem run_append {A : List Chunk} {T T2 El : TypeId} {D2 : TypeDesc} {k bytes n m t : Nat} {cs ms : List AV} {v u : Value} {ty : TypeId}
    (hT : P.underlying T = some (.slice El)) (hT2 : P.underlying T2 = some D2) (hD2 : intDesc D2 = false) (hE : elemInfo P El = some (k, bytes)) (hk : 0 < k)
    (hI : Inv I (.tok t El :: A) w) (hv : Rel I w (.sl k cs (some t)) v) (hn : cs.length = n * k) (hu : Src P I w k u ms m) (hcell : ∀ c ∈ ms, isCell c = true) (hb : (n + m) * bytes ≤ 140737488355328) (hs : n + m ≤ 140737488355328) :
    ∃ v' w' I' t', (Builtin.append_ #[T, T2] ty #[v, u]).run P w = .ok v' w' ∧ Ext I w I' w' ∧ Inv I' (.tok t' El :: A) w' ∧ Rel I' w' (.sl k (cs ++ ms) (some t')) v' := by
  obtain ⟨i, z, hi, hz, hzs, hsz, hby⟩ := elemInfo_parts hE
  obtain ⟨xs, hml, hrl, hlen, hfirst⟩ := hu
  have hxl : xs.length = m * k := by rw [hrl.1, hml]
  have hone : ∀ x ∈ xs, x.oneCell' = true := by
    intro x hx
    obtain ⟨j, hj, rfl⟩ := List.getElem_of_mem hx
    have hj' : j < ms.length := by rw [← hrl.1]; exact hj
    have := hrl.2 j hj'
    rw [show xs.getD j undef = xs[j] by simp [List.getD, hj]] at this
    exact rel_oneCell this (hcell _ (List.getElem_mem hj'))
  have hcz : cellsAt P El = some k := by simp only [cellsAt, hi, Option.map_some, hsz]
  -- a new row
  have grown : ∀ (base : Option Addr) (cap : Nat) (old : List Value), old.length = cs.length → RelL I w cs old → cap < n + m → v = .slice base n cap →
      (∀ w', (∀ b j, Stab I b (j + 1) → w'.cell? ⟨b, j, none⟩ = w.cell? ⟨b, j, none⟩) → (Builtin.firstCells k n v).run P w' = .ok old.toArray w') →
      ∃ v' w' I' t', (Builtin.append_ #[T, T2] ty #[v, u]).run P w = .ok v' w' ∧ Ext I w I' w' ∧ Inv I' (.tok t' El :: A) w' ∧ Rel I' w' (.sl k (cs ++ ms) (some t')) v' := by
    intro base cap old hol hro hcap hve hold
    subst hve
    obtain ⟨t', ht'⟩ := hI.fresh_tok
    have hge := grownCap_ge w (n + m) cap El
    generalize hg : grownCap w (n + m) cap El = c at hge
    have hch : (choose (.appendCap (n + m) cap El)).run P w = .ok c w.drew := by
      rw [run_choose_drew, ← hg]
      rfl
    have hfit : ¬ (Builtin.nextslicecap (n + m) cap * i.bytes > 2 ^ 48) := by
      have := growslice_fits (need := n + m) (old := cap) (bytes := i.bytes) (by omega) (by rw [hby]; exact hb)
      omega
    have hID := hI.drew
    have hdrop : Inv I A w.drew := hID.sub (List.sublist_cons_self ..)
    have hzl : (Builtin.zeroCells z.cells (c - (n + m))).size = (c - (n + m)) * k := by rw [size_zeroCells, hzs]
    have harr : (old ++ xs ++ (Builtin.zeroCells z.cells (c - (n + m))).toList).length = c * k := by
      simp only [List.length_append, hol, hn, hxl, Array.length_toList, hzl, ← Nat.add_mul]
      congr 1; omega
    have hle : n * k + m * k ≤ c * k := by rw [← Nat.add_mul]; exact Nat.mul_le_mul_right _ hge
    have X := hdrop.new_row ht' (n * k + m * k) (c * k) (.cells (old ++ xs ++ (Builtin.zeroCells z.cells (c - (n + m))).toList).toArray El (0, 0))
    have hI' := hdrop.alloc_row ht' (n * k + m * k) (old ++ xs ++ (Builtin.zeroCells z.cells (c - (n + m))).toList) El (0, 0) (by rw [harr]; exact hle) (.inl rfl)
    rw [harr] at hI'
    refine ⟨.slice (some ⟨w.drew.heap.size, 0, none⟩) (n + m) c, _, _, t', ?_, (Ext.drew I w).trans X, hI', ?_⟩
    · have hti : (typeInfo El).run P w = .ok i w := by simp [typeInfo, program, hi, Sem.run]
      have hti2 : (typeInfo El).run P w.drew = .ok i w.drew := by simp [typeInfo, program, hi, Sem.run]
      have hzv : (zeroValue El).run P w.drew = .ok z w.drew := by simp only [zeroValue, Sem.run_bind, hti2, Result.andThen_ok, hz, Sem.run_pure]
      have hroom : (askRoom (c * i.bytes)).run P w.drew = .ok () w.drew := by unfold askRoom; split <;> rfl
      have hcf : (choose (.appendCap (n + m) cap El)).run P w = .ok c w.drew := hch
      have hm : IntKind.i64.max = 9223372036854775807 := by decide
      have heq : old.toArray ++ xs.toArray ++ Builtin.zeroCells z.cells (c - (n + m)) = (old ++ xs ++ (Builtin.zeroCells z.cells (c - (n + m))).toList).toArray := by apply Array.ext'; simp
      cases D2 <;> cases hD2
      all_goals
        simp only [Builtin.append_, List.getElem?_toArray, List.getElem?_cons_zero, List.getElem?_cons_succ, run_underlying hT, run_underlying hT2, Sem.run_bind, Sem.run_pure, Result.andThen_ok, run_sizeOf hcz, hlen, Bool.false_eq_true, if_false]
        rw [if_neg (show ¬ n + m ≤ cap by omega)]
        simp only [false_or, Sem.run_bind, hti, Result.andThen_ok]
        rw [if_neg (show ¬ (((n + m : Nat) : Int) > IntKind.i64.max ∧ i.bytes = 0) by omega)]
        simp only [Sem.run_bind, hti, Result.andThen_ok, Sem.run_pure]
        rw [if_neg hfit]
        simp only [Sem.run_bind, hti2, hcf, Result.andThen_ok, Sem.run_pure, hroom, hold w.drew (fun _ _ _ => rfl), hfirst w.drew (fun _ _ _ => rfl), Bool.not_false, if_true, hzv, newRow, run_newObj_alloc]
        rw [heq]
    · refine .sl k _ _ _ 0 _ _ (fun j => (old ++ xs).getD j undef) hk (by rw [List.length_append, hn, hml, Nat.add_mul]) hge ?_ ?_ ?_ ?_
      · intro q hq
        simp only [Info.putTok, if_true, Option.some.injEq] at hq
        subst hq; simp only [List.length_append, hn, hml]; omega
      · intro j hj
        have hj2 : j < (old ++ xs).length := by simp only [List.length_append, hol, hn, hxl, hml] at hj ⊢; exact hj
        rw [Nat.zero_add, (show CellsAt (w.drew.alloc (.cells (old ++ xs ++ (Builtin.zeroCells z.cells (c - (n + m))).toList).toArray El (0, 0))) w.drew.heap.size _ from ⟨El, (0, 0), heap_alloc_eq _ _, .inl rfl⟩).cell]
        rw [List.getElem?_append_left hj2, List.getD, List.getElem?_eq_getElem hj2, Option.getD_some]
      · have := (RelL.append hro hrl).mono ((Ext.drew I w).trans X)
        exact this.2
      · intro q hq
        cases hq
        exact ⟨by simp [Info.putTok, List.length_append, hn, hml], rfl⟩
  cases hv with
  | slnil k t ht =>
    have hn0 : n = 0 := by
      rcases Nat.eq_zero_or_pos n with h | h
      · exact h
      · have := Nat.mul_pos h hk; simp at hn; omega
    subst hn0
    by_cases hm0 : m = 0
    · subst hm0
      have hms : ms = [] := List.eq_nil_of_length_eq_zero (by rw [hml, Nat.zero_mul])
      subst hms
      have hxs : xs = [] := List.eq_nil_of_length_eq_zero (by rw [hxl, Nat.zero_mul])
      subst hxs
      refine ⟨.slice none 0 0, w, I, t, ?_, Ext.refl _ _, hI, .slnil k t ht⟩
      cases D2 <;> cases hD2
      all_goals
        simp only [Builtin.append_, List.getElem?_toArray, List.getElem?_cons_zero, List.getElem?_cons_succ, run_underlying hT, run_underlying hT2, Sem.run_bind, Sem.run_pure, Result.andThen_ok, run_sizeOf hcz, hlen, Bool.false_eq_true, if_false]
        rw [if_pos (Nat.le_refl 0)]
        simp only [Sem.run_bind, hfirst w (fun _ _ _ => rfl), Bool.not_false, if_true, Result.andThen_ok, Sem.run_pure]
    · refine grown none 0 [] rfl RelL.nil (by omega) (by simp) (fun w' _ => run_firstCells_none ..)
  | sl k cs t' b off len cap f hk' hlen' hcap hst hx hr ht =>
    obtain ⟨htk, rfl⟩ := ht t rfl
    have hln : len = n := Nat.eq_of_mul_eq_mul_right hk (hlen'.trans hn)
    subst hln
    obtain ⟨ob, n', c', ht2, _, hh⟩ := hI.holds _ (List.mem_cons_self ..)
    rw [htk] at ht2; cases ht2
    obtain ⟨hex, hnc, arr, hca, hal, het⟩ := hh b rfl
    by_cases hfit : len + m ≤ cap
    · obtain ⟨t', ht'⟩ := hI.fresh_tok
      have hle : len * k + m * k ≤ cap * k := by rw [← Nat.add_mul]; exact Nat.mul_le_mul_right _ hfit
      have hst' : (storeCells ⟨b, len * k, none⟩ xs).run P w = .ok () (w.setCells b (len * k + 0) xs) := by
        refine run_storeCells_cells b (len * k) xs 0 w (fun j hj => ?_) (fun j hj => ?_) hone
        · rw [hca.cell]; simp only [Nat.add_zero]; rw [List.getElem?_eq_getElem (by omega)]; rfl
        · exact hca.free (by omega)
      simp only [Nat.add_zero] at hst'
      obtain ⟨r1, r2, r3, r4⟩ := setCells_rest b xs (len * k) w
      have hcell' : ∀ j, j < len * k → (w.setCells b (len * k) xs).cell? ⟨b, j, none⟩ = w.cell? ⟨b, j, none⟩ := fun j hj => World.cell?_setCells_out b xs _ w _ (fun _ _ => .inl hj)
      obtain ⟨arr', hca', hal'⟩ := setCells_at b xs (len * k) w arr hca
      obtain ⟨E, hI'⟩ := hI.grow htk ht' (m * k) (by rw [← hlen']; exact hle) r1 r2 r3 r4 (fun b' hb' => setCells_heap_ne b xs _ w b' hb') (by rw [← hlen']; exact hcell') ⟨arr', hca', by rw [hal', hal]⟩ (fun E hE => setCells_elem b xs _ w E hE)
      refine ⟨.slice (some ⟨b, 0, none⟩) (len + m) cap, _, _, t', ?_, E, hI', ?_⟩
      · cases D2 <;> cases hD2
        all_goals
          simp only [Builtin.append_, List.getElem?_toArray, List.getElem?_cons_zero, List.getElem?_cons_succ, run_underlying hT, run_underlying hT2, Sem.run_bind, Sem.run_pure, Result.andThen_ok, run_sizeOf hcz, hlen, Bool.false_eq_true, if_false]
          rw [if_pos hfit]
          simp only [Sem.run_bind, hfirst w (fun _ _ _ => rfl), Bool.not_false, if_true, Result.andThen_ok, Sem.run_pure, addr_add, Nat.zero_add, hst']
      · refine .sl k _ _ _ 0 _ _ (fun j => if j < cs.length then f j else xs.getD (j - cs.length) undef) hk (by rw [List.length_append, ← hlen', hml, Nat.add_mul]) hfit ?_ ?_ ?_ ?_
        · intro q hq
          simp only [Info.putTok, if_true, Option.some.injEq] at hq
          subst hq; simp only [List.length_append, hml]; omega
        · intro j hj
          by_cases hjc : j < cs.length
          · rw [if_pos hjc, Nat.zero_add, hcell' j (by omega)]
            have := hx j hjc
            rwa [Nat.zero_add] at this
          · rw [if_neg hjc]
            have hj2 : j - cs.length < xs.length := by simp only [List.length_append, hml] at hj; omega
            have := World.cell?_setCells_in b xs (len * k) w (fun i hi => by rw [hca.cell]; rw [List.getElem?_eq_getElem (by omega)]; rfl) (j - cs.length) hj2
            rw [show 0 + j = len * k + (j - cs.length) by omega, this]
            simp [List.getD, hj2]
        · intro j hj
          by_cases hjc : j < cs.length
          · rw [if_pos hjc, List.getElem_append_left hjc]; exact (hr j hjc).mono E
          · rw [if_neg hjc, List.getElem_append_right (by omega)]
            exact (hrl.2 _ (by simp only [List.length_append] at hj; omega)).mono E
        · intro q hq
          cases hq
          exact ⟨by simp [Info.putTok, List.length_append, ← hlen', hml], rfl⟩
    · have hg : ∀ j, j < cs.length → ((List.range cs.length).map f).getD j undef = f j := fun j hj => by simp [List.getD, hj]
      refine grown (some ⟨b, 0, none⟩) cap ((List.range cs.length).map f) (by simp) ⟨by simp, fun j hj => by rw [hg j hj]; exact hr j hj⟩ (by omega) rfl (fun w' hw => ?_)
      refine run_firstCells_some _ k len _ _ _ _ (by simp [hlen']) (fun j v hj => ?_)
      have hlt : j < cs.length := by have := (List.getElem?_eq_some_iff.1 hj).1; simpa using this
      rw [addr_add, hw b (0 + j) (hst.le (by omega)), hx j hlt]
      rw [← hg j hlt]
      simp only [List.getD, hj, Option.getD_some]

variable {e : Env} {d : Option Nat} {T : TypeId} {pos : String} {after : Array Edge} {g : Option (Nat × Bool)} {x y : Operand} {av : AV} {A : List Chunk}

theorem exec_append {T T2 T3 : TypeId} {ρ : Operand → Value} {v' : Value} {w' : World} (h : (Builtin.append_ #[T, T2] T3 #[ρ x, ρ y]).run P w = .ok v' w') :
    (execOp ρ ⟨d, .call ⟨.builtin .append, #[x, y], #[T, T2]⟩, T3, pos, after, g⟩).run P w = .ok (.value v') w' := by
  simp only [execOp, resolve, List.map_toArray, List.map_cons, List.map_nil, Sem.run_bind, Sem.run_pure, Result.andThen_ok, invoke, builtin, h]

/-- 'append' of a slice's elements to what may grow. -/
theorem opX_append {α : Type} {E : Enc α} {l m : List α} {t : Nat} {t2 : Option Nat} {El T2 T3 bytes : Nat} {D2 : TypeDesc} (i : Nat) (hT : P.underlying T = some (.slice El)) (hT2 : P.underlying T2 = some D2) (hD2 : intDesc D2 = false) (hE : elemInfo P El = some (E.k, bytes))
    (hx : opv e x = slE E l (some t)) (hy : opv e y = slE E m t2) (hA : A[i]? = some (.tok t El)) (hb : (l.length + m.length) * bytes ≤ 140737488355328) (hs : l.length + m.length ≤ 140737488355328) :
    OpX P ⟨d, .call ⟨.builtin .append, #[x, y], #[T, T2]⟩, T3, pos, after, g⟩ e A (fun av A' => ∃ t', av = slE E (l ++ m) (some t') ∧ A' = A.set i (.tok t' El)) := fun F I w ρ hI hρ => by
  obtain ⟨v', w', I', t', h1, h2, h3, h4⟩ := run_append (ty := T3) hT hT2 hD2 hE E.pos (hI.take_at hA) (hx ▸ hρ x) (E.fl_length l) (src_sl (hy ▸ hρ y)) (E.fl_cell m) hb hs
  rw [← E.fl_append] at h4
  exact ⟨_, v', w', I', _, _, exec_append h1, .inl rfl, h2, Inv.put_at hA h3, h4, t', rfl, rfl⟩
/-- 'append' of a text's bytes. -/
theorem opX_append_str {l m : List UInt8} {t : Nat} {El T2 T3 bytes : Nat} {D2 : TypeDesc} (i : Nat) (hT : P.underlying T = some (.slice El)) (hT2 : P.underlying T2 = some D2) (hD2 : intDesc D2 = false) (hE : elemInfo P El = some (1, bytes))
    (hx : opv e x = slE Enc.byte l (some t)) (hy : opv e y = S m) (hA : A[i]? = some (.tok t El)) (hb : (l.length + m.length) * bytes ≤ 140737488355328) (hs : l.length + m.length ≤ 140737488355328) :
    OpX P ⟨d, .call ⟨.builtin .append, #[x, y], #[T, T2]⟩, T3, pos, after, g⟩ e A (fun av A' => ∃ t', av = slE Enc.byte (l ++ m) (some t') ∧ A' = A.set i (.tok t' El)) := fun F I w ρ hI hρ => by
  have e2 := rel_v (hy ▸ hρ y)
  obtain ⟨v', w', I', t', h1, h2, h3, h4⟩ := run_append (ty := T3) (u := ρ y) hT hT2 hD2 hE (Nat.zero_lt_one) (hI.take_at hA) (hx ▸ hρ x) (Enc.byte.fl_length l) (by rw [e2]; exact src_str) (Enc.byte.fl_cell m) hb hs
  rw [← Enc.fl_append] at h4
  exact ⟨_, v', w', I', _, _, exec_append h1, .inl rfl, h2, Inv.put_at hA h3, h4, t', rfl, rfl⟩
/-- 'append' to nil. -/
theorem opX_append_nil {α : Type} {E : Enc α} {m : List α} {t2 : Option Nat} {El T2 T3 bytes : Nat} {D2 : TypeDesc} (hT : P.underlying T = some (.slice El)) (hT2 : P.underlying T2 = some D2) (hD2 : intDesc D2 = false) (hE : elemInfo P El = some (E.k, bytes))
    (hx : opv e x = nilS) (hy : opv e y = slE E m t2) (hb : m.length * bytes ≤ 140737488355328) (hs : m.length ≤ 140737488355328) :
    OpX P ⟨d, .call ⟨.builtin .append, #[x, y], #[T, T2]⟩, T3, pos, after, g⟩ e A (fun av A' => ∃ t', av = slE E m (some t') ∧ A' = .tok t' El :: A) := fun F I w ρ hI hρ => by
  obtain ⟨t, ht⟩ := hI.fresh_tok
  obtain ⟨E0, hI0⟩ := hI.nil_tok ht El
  have e1 := rel_v (hx ▸ hρ x)
  have hv : Rel (I.nilTok t) w (.sl E.k [] (some t)) (ρ x) := by rw [e1]; exact .slnil _ _ (by simp [Info.nilTok])
  obtain ⟨v', w', I', t', h1, h2, h3, h4⟩ := run_append (ty := T3) hT hT2 hD2 hE E.pos hI0 hv (n := 0) (by simp) (src_sl ((hy ▸ hρ y).mono E0)) (E.fl_cell m) (by rw [Nat.zero_add]; exact hb) (by rw [Nat.zero_add]; exact hs)
  exact ⟨_, v', w', I', _, _, exec_append h1, .inl rfl, E0.trans h2, h3, h4, t', rfl, rfl⟩

/-! ### Slices of literals; pieces -/

/-- The cells of parts that stand one behind the other. -/
theorem fill_one : ∀ (vs : List Value) (i : Nat) (pre rest : List Value), pre.length = i → rest.length = vs.length → (∀ v ∈ vs, v.oneCell' = true) →
    Instr.fill (fun i => some (i * 1, 1)) (pre ++ rest).toArray ((List.range' i vs.length).zip vs) = some (pre ++ vs).toArray
  | [], i, pre, rest, hi, hr, h1 => by
    have : rest = [] := List.eq_nil_of_length_eq_zero (by simpa using hr)
    subst this
    simp [Instr.fill]
  | v :: vs, i, pre, rest, hi, hr, h1 => by
    obtain ⟨r0, rest, rfl⟩ : ∃ r0 r, rest = r0 :: r := by cases rest with
      | nil => simp at hr
      | cons a r => exact ⟨a, r, rfl⟩
    have hv := h1 v (List.mem_cons_self ..)
    have hc : v.cells = #[v] := by cases v <;> first | rfl | cases hv
    have ih := fill_one vs (i + 1) (pre ++ [v]) rest (by simp [hi]) (by simpa using hr) (fun u hu => h1 u (List.mem_cons_of_mem _ hu))
    simp only [List.length_cons, List.range'_succ, List.zip_cons_cons, Instr.fill, hc]
    rw [if_neg (by simp [hi])]
    have hset : (#[v].zipIdx.foldl (fun cs (x : Value × Nat) => cs.setIfInBounds (i * 1 + x.2) x.1) (pre ++ r0 :: rest).toArray) = (pre ++ [v] ++ rest).toArray := by
      apply Array.ext'
      simp [← hi]
    rw [hset]
    simpa using ih

theorem opR_buildSlice_run {El bytes : Nat} {parts : Array (Nat × Operand)} {xs : List Operand} {cs : List AV} {T2 n : Nat} {ρ : Operand → Value} (hT : P.underlying T = some (.slice El)) (hE : elemInfo P El = some (1, bytes)) (hn : xs.length = n) (hp : parts = ((List.range' 0 xs.length).zip xs).toArray) (hlt : n ≤ 16777216)
    (hcs : xs.map (opv e) = cs) (hcell : ∀ c ∈ cs, isCell c = true) (hρ : ∀ x, Rel I w (opv e x) (ρ x)) : (execOp ρ ⟨d, .buildSlice T n parts, T2, pos, after, g⟩).run P w = .ok (.value (.slice (some ⟨w.heap.size, 0, none⟩) xs.length xs.length)) (w.alloc (.cells (xs.map ρ).toArray El)) := by
  subst hn
  obtain ⟨i, z, hi, hz, hzs, hsz, hby⟩ := elemInfo_parts hE
  have hcz : cellsAt P El = some 1 := by simp only [cellsAt, hi, Option.map_some, hsz]
  have hrl : RelL I w cs (xs.map ρ) := by rw [← hcs]; exact RelL.map _ _ _ fun x _ => hρ x
  have hlen : (xs.map ρ).length = cs.length := hrl.1
  have hone : ∀ v ∈ xs.map ρ, v.oneCell' = true := by
    intro v hv
    obtain ⟨j, hj, rfl⟩ := List.getElem_of_mem hv
    have hj' : j < cs.length := by rw [← hrl.1]; exact hj
    have := hrl.2 j hj'
    rw [show (xs.map ρ).getD j undef = (xs.map ρ)[j] by simp only [List.getD, List.getElem?_eq_getElem hj, Option.getD_some]] at this
    exact rel_oneCell this (hcell _ (List.getElem_mem hj'))
  have hti : (typeInfo El).run P w = .ok i w := by simp [typeInfo, program, hi, Sem.run]
  have hzv : (zeroValue El).run P w = .ok z w := by simp only [zeroValue, Sem.run_bind, hti, Result.andThen_ok, hz, Sem.run_pure]
  have hpm : (parts.map fun (i, x) => (i, ρ x)).toList = (List.range' 0 (xs.map ρ).length).zip (xs.map ρ) := by
    subst hp
    simp [List.zip_map_right]
  have key : ∀ zero : Array Value, Instr.fill (fun i => some (i * 1, 1)) ((Array.range (xs.length * 1)).map (zero[· % zero.size]!)) (parts.map fun (i, x) => (i, ρ x)).toList = some (xs.map ρ).toArray := by
    intro zero
    have hfill := fill_one (xs.map ρ) 0 [] ((Array.range (xs.length * 1)).map (zero[· % zero.size]!)).toList rfl (by simp) hone
    simp only [List.nil_append, Array.toArray_toList] at hfill
    rw [hpm]; exact hfill
  have hz0 : (if xs.length * 1 = 0 then (pure #[] : Sem (Array Value)) else do pure (← zeroValue El).cells).run P w = .ok (if xs.length * 1 = 0 then #[] else z.cells) w := by
    split
    · rfl
    · simp only [Sem.run_bind, hzv, Result.andThen_ok, Sem.run_pure]
  simp only [execOp, Instr.buildSlice, Sem.run_bind, run_underlying hT, Result.andThen_ok, run_sizeOf hcz, Sem.run_pure]
  rw [if_neg (by omega)]
  simp only [Sem.run_bind, hz0, Result.andThen_ok, key, newRow, run_newObj_alloc, Sem.run_pure]
  split <;> simp only [Sem.run_bind, hzv, Result.andThen_ok, Sem.run_pure, run_newObj_alloc]

theorem opR_buildSlice {El bytes : Nat} {parts : Array (Nat × Operand)} {xs : List Operand} {cs : List AV} {T2 n : Nat} (hT : P.underlying T = some (.slice El)) (hE : elemInfo P El = some (1, bytes)) (hn : xs.length = n) (hp : parts = ((List.range' 0 xs.length).zip xs).toArray) (hlt : n ≤ 16777216)
    (hcs : xs.map (opv e) = cs) (hcell : ∀ c ∈ cs, isCell c = true) : OpR P ⟨d, .buildSlice T n parts, T2, pos, after, g⟩ e A (.sl 1 cs none) A := fun F I w ρ hI hρ => by
  have hrl : RelL I w cs (xs.map ρ) := by rw [← hcs]; exact RelL.map _ _ _ fun x _ => hρ x
  have hlen : (xs.map ρ).length = cs.length := hrl.1
  have X := hI.new_still (.cells (xs.map ρ).toArray El)
  refine ⟨_, .slice (some ⟨w.heap.size, 0, none⟩) xs.length xs.length, _, _, opR_buildSlice_run hT hE hn hp hlt hcs hcell hρ, .inl rfl, X, hI.alloc_still _, ?_⟩
  · refine .sl 1 cs none _ 0 _ _ (fun j => (xs.map ρ).getD j undef) (by omega) (by rw [← hlen]; simp) (Nat.le_refl _) ?_ ?_ (hrl.mono X).2 (fun t h => by cases h)
    · intro m hm; simp [Info.still] at hm
    · intro j hj
      have hj' : j < (xs.map ρ).length := by rw [hlen]; exact hj
      rw [Nat.zero_add]
      simp only [World.cell?, heap_alloc_eq]
      simp only [Option.isSome_none, Bool.false_eq_true, if_false, List.getElem?_toArray, List.getD, List.getElem?_eq_getElem hj', Option.getD_some]

theorem _root_.List.set_getElem?_self' {α : Type} : ∀ {l : List α} {i : Nat} {a : α}, l[i]? = some a → l.set i a = l
  | [], _, _, h => by cases h
  | x :: l, 0, a, h => by simp at h; subst h; rfl
  | x :: l, i + 1, a, h => by simp at h; simp [List.set_getElem?_self' h]

theorem opX_buildSlice {El bytes : Nat} {parts : Array (Nat × Operand)} {xs : List Operand} {cs : List AV} {T2 n : Nat} (hT : P.underlying T = some (.slice El)) (hE : elemInfo P El = some (1, bytes)) (hn : xs.length = n) (hp : parts = ((List.range' 0 xs.length).zip xs).toArray) (hlt : n ≤ 16777216)
    (hcs : xs.map (opv e) = cs) (hcell : ∀ c ∈ cs, isCell c = true) : OpX P ⟨d, .buildSlice T n parts, T2, pos, after, g⟩ e A (fun av A' => ∃ t, av = .sl 1 cs (some t) ∧ A' = .tok t El :: A) := fun F I w ρ hI hρ => by
  obtain ⟨t, ht⟩ := hI.fresh_tok
  obtain ⟨n', v, w', I', hrun, hnv, E, hI', hv⟩ := opR_buildSlice (P := P) (d := d) (T := T) (pos := pos) (after := after) (g := g) (A := A) (T2 := T2) hT hE hn hp hlt hcs hcell F I w ρ hI hρ
  have hrl : RelL I w cs (xs.map ρ) := by rw [← hcs]; exact RelL.map _ _ _ fun x _ => hρ x
  have hlen : (xs.map ρ).length = cs.length := hrl.1
  have hex : (execOp ρ ⟨d, .buildSlice T n parts, T2, pos, after, g⟩).run P w = .ok (.value (.slice (some ⟨w.heap.size, 0, none⟩) xs.length xs.length)) (w.alloc (.cells (xs.map ρ).toArray El)) := opR_buildSlice_run hT hE hn hp hlt hcs hcell hρ
  have X := hI.new_row ht cs.length (xs.map ρ).length (.cells (xs.map ρ).toArray El (0, 0))
  refine ⟨_, _, _, _, _, _, hex, .inl rfl, X, hI.alloc_row ht cs.length (xs.map ρ) El (0, 0) (by omega) (.inl rfl), ?_, t, rfl, rfl⟩
  refine .sl 1 cs _ _ 0 _ _ (fun j => (xs.map ρ).getD j undef) (by omega) (by rw [← hlen]; simp) (Nat.le_refl _) ?_ ?_ (hrl.mono X).2 (fun t' h => ?_)
  · intro m hm
    simp only [Info.putTok, if_true] at hm
    cases hm; omega
  · intro j hj
    have hj' : j < (xs.map ρ).length := by omega
    rw [Nat.zero_add]
    simp only [World.cell?, heap_alloc_eq]
    simp only [Option.isSome_none, Bool.false_eq_true, if_false, List.getElem?_toArray, List.getD, List.getElem?_eq_getElem hj', Option.getD_some]
  · cases h
    exact ⟨by simp [Info.putTok], rfl⟩

/-- '[]byte(b)' where b is of that type already. -/
theorem opR_conv_same {l : List UInt8} {t El T2 : Nat} (i : Nat) (hT : P.underlying T = some (.slice El)) (hE : P.underlying El = some (.int .u8)) (hx : opv e x = slE Enc.byte l (some t)) (hne : l ≠ []) (hA : A[i]? = some (.tok t El)) :
    OpR P ⟨d, .convert T T x, T2, pos, after, g⟩ e A (slE Enc.byte l (some t)) A := fun F I w ρ hI hρ => by
  have h := hx ▸ hρ x
  have hI2 := hI.take_at hA
  have hll : 0 < (Enc.byte.fl l).length := by
    rw [Enc.fl_length]
    cases l with
    | nil => exact absurd rfl hne
    | cons a r => simp [Enc.byte]
  unfold slE at h
  generalize hcs : Enc.byte.fl l = cs at h hll
  generalize e1 : ρ x = v at h
  cases h with
  | slnil k t ht => simp at hll
  | sl k cs t' b off len cap f hk' hlen' hcap hst hx' hr ht =>
    obtain ⟨htk, rfl⟩ := ht t rfl
    obtain ⟨E, hI3⟩ := hI2.mark htk
    obtain ⟨ob, n', c', ht2, _, hh⟩ := hI2.holds _ (List.mem_cons_self ..)
    rw [htk] at ht2; cases ht2
    obtain ⟨hex, hnc, arr, hca, hal⟩ := hh b rfl
    have hback := Inv.put_at (c' := .tok t El) hA hI3
    have hset : A.set i (.tok t El) = A := by
      rw [List.set_getElem?_self' hA]
    rw [hset] at hback
    refine ⟨.value (.slice (some ⟨b, 0, none⟩) len cap), _, _, I, ?_, .inl rfl, E, hback, ?_⟩
    · obtain ⟨E', hsh⟩ : ∃ E', w.shape? b = some (E', cap * Enc.byte.k) := by
        obtain ⟨E', fz, hh', _⟩ := hca
        exact ⟨E', by simp [World.shape?, hh', hal]⟩
      have hm : (markStringish ⟨b, 0, none⟩).run P w = .ok () (w.freeze ⟨b, cap * Enc.byte.k, none⟩ 1) := by
        simp only [markStringish, Sem.run_bind, run_shape, hsh, Result.andThen_ok, run_freeze]
      simp only [execOp, e1, convert, Sem.run_bind, run_underlying hT, run_underlying hE, Result.andThen_ok, beq_self_eq_true, hm, Sem.run_pure]
    · unfold slE
      rw [hcs]
      exact (Rel.sl (I := I) (w := w) _ cs (some t) b 0 len cap f hk' hlen' hcap hst hx' hr ht).mono E

theorem rel_piece {α : Type} {E : Enc α} {l : List α} {a : Option Addr} {cap lo hi El : Nat} {xs : List Value} (hsz : cellsAt P El = some E.k) (hcap : l.length ≤ cap) (hrl : RelL I w (E.fl l) xs)
    (hor : l.length = 0 ∨ ∃ b off, a = some ⟨b, off, none⟩ ∧ Stab I b (off + (E.fl l).length) ∧ ∀ j, j < (E.fl l).length → w.cell? ⟨b, off + j, none⟩ = some (xs.getD j undef)) (h1 : lo ≤ hi) (h2 : hi ≤ l.length) :
    Rel I w (slE E ((l.take hi).drop lo) none) (.slice (if cap = lo then a else a.map (·.add (lo * E.k))) (hi - lo) (cap - lo)) := by
  by_cases hz : hi - lo = 0
  · have : (l.take hi).drop lo = [] := List.drop_eq_nil_of_le (by simp; omega)
    rw [this, hz]
    exact .slz _ _ _
  · have hlen : ((l.take hi).drop lo).length = hi - lo := by simp; omega
    have hflen : (E.fl ((l.take hi).drop lo)).length = (hi - lo) * E.k := by rw [E.fl_length, hlen]
    rcases hor with h0 | ⟨b, off, rfl, hst, hc⟩
    · omega
    rw [if_neg (by omega)]
    have hfl : (E.fl l).length = l.length * E.k := E.fl_length l
    have hb : lo * E.k + (hi - lo) * E.k ≤ l.length * E.k := by rw [← Nat.add_mul]; exact Nat.mul_le_mul_right _ (by omega)
    rw [Option.map_some, addr_add]
    refine .sl _ _ _ _ _ _ _ (fun j => xs.getD (lo * E.k + j) undef) E.pos hflen.symm (by omega) (hst.le (by omega)) (fun j hj => ?_) (fun j hj => ?_) (fun t h => by cases h)
    · rw [← hc _ (by omega), Nat.add_assoc]
    · have hj' : lo * E.k + j < (E.fl l).length := by omega
      have h3 : (E.fl ((l.take hi).drop lo))[j] = (E.fl l)[lo * E.k + j] := by
        have h4 : (E.fl ((l.take hi).drop lo))[j]? = (E.fl l)[lo * E.k + j]? := by
          rw [E.fl_drop, E.fl_take, List.getElem?_drop, List.getElem?_take]
          rw [if_pos]
          have : hi * E.k = lo * E.k + (hi - lo) * E.k := by rw [← Nat.add_mul]; congr 1; omega
          omega
        rw [List.getElem?_eq_getElem hj, List.getElem?_eq_getElem hj'] at h4
        exact Option.some.inj h4
      rw [h3]; exact hrl.2 _ hj'

/-- Pieces of a slice: from lo on up to hi (within its length). -/
theorem opS_slice_sl {α : Type} {E : Enc α} {l : List α} {t : Option Nat} {q q' : IntKind} {n n' : Int} {lo hi : Nat} {z : Operand} {El T2 : TypeId} (hT : P.underlying T = some (.slice El)) (hsz : cellsAt P El = some E.k) (hx : opv e x = slE E l t)
    (hy : opv e y = .v (.int q n)) (hz : opv e z = .v (.int q' n')) (hn : n = lo) (hn' : n' = hi) (h1 : lo ≤ hi) (h2 : hi ≤ l.length) :
    OpS P ⟨d, .slice T x (some y) (some z) none, T2, pos, after, g⟩ e (slE E ((l.take hi).drop lo) none) := fun I w ρ hρ => by
  obtain ⟨a, cap, xs, e1, hcap, hrl, hor⟩ := rel_slE (hx ▸ hρ x)
  have e2 := rel_v (hy ▸ hρ y)
  have e3 := rel_v (hz ▸ hρ z)
  refine ⟨.slice (if cap = lo then a else a.map (·.add (lo * E.k))) (hi - lo) (cap - lo), ?_, fun w' _ _ => ?_⟩
  · exact rel_piece hsz hcap hrl hor h1 h2
  · simp only [execOp, e1, e2, e3, Option.map_some, Option.map_none, Instr.sliceAt, Instr.slice, Instr.sliceBounds, run_underlying hT, Sem.run_bind, Sem.run_pure, Result.andThen_ok, Option.isSome_none, Bool.false_eq_true, if_false,
      run_bound hn' (Nat.le_trans h2 hcap), run_bound hn h1, run_sizeOf hsz]
theorem opS_slice_sl_from {α : Type} {E : Enc α} {l : List α} {t : Option Nat} {q : IntKind} {n : Int} {lo : Nat} {El T2 : TypeId} (hT : P.underlying T = some (.slice El)) (hsz : cellsAt P El = some E.k) (hx : opv e x = slE E l t)
    (hy : opv e y = .v (.int q n)) (hn : n = lo) (h1 : lo ≤ l.length) : OpS P ⟨d, .slice T x (some y) none none, T2, pos, after, g⟩ e (slE E (l.drop lo) none) := fun I w ρ hρ => by
  obtain ⟨a, cap, xs, e1, hcap, hrl, hor⟩ := rel_slE (hx ▸ hρ x)
  have e2 := rel_v (hy ▸ hρ y)
  refine ⟨.slice (if cap = lo then a else a.map (·.add (lo * E.k))) (l.length - lo) (cap - lo), ?_, fun w' _ _ => ?_⟩
  · have := rel_piece hsz hcap hrl hor h1 (Nat.le_refl l.length)
    rwa [List.take_length] at this
  · simp only [execOp, e1, e2, Option.map_some, Option.map_none, Instr.sliceAt, Instr.slice, Instr.sliceBounds, run_underlying hT, Sem.run_bind, Sem.run_pure, Result.andThen_ok, Option.isSome_none, Bool.false_eq_true, if_false,
      run_bound hn h1, run_sizeOf hsz]
theorem opS_slice_sl_to {α : Type} {E : Enc α} {l : List α} {t : Option Nat} {q' : IntKind} {n' : Int} {hi : Nat} {z : Operand} {El T2 : TypeId} (hT : P.underlying T = some (.slice El)) (hsz : cellsAt P El = some E.k) (hx : opv e x = slE E l t)
    (hz : opv e z = .v (.int q' n')) (hn' : n' = hi) (h2 : hi ≤ l.length) : OpS P ⟨d, .slice T x none (some z) none, T2, pos, after, g⟩ e (slE E (l.take hi) none) := fun I w ρ hρ => by
  obtain ⟨a, cap, xs, e1, hcap, hrl, hor⟩ := rel_slE (hx ▸ hρ x)
  have e3 := rel_v (hz ▸ hρ z)
  refine ⟨.slice (if cap = 0 then a else a.map (·.add (0 * E.k))) (hi - 0) (cap - 0), ?_, fun w' _ _ => ?_⟩
  · have := rel_piece hsz hcap hrl hor (Nat.zero_le hi) h2
    simpa using this
  · simp only [execOp, e1, e3, Option.map_some, Option.map_none, Instr.sliceAt, Instr.slice, Instr.sliceBounds, run_underlying hT, Sem.run_bind, Sem.run_pure, Result.andThen_ok, Option.isSome_none, Bool.false_eq_true, if_false,
      run_bound hn' (Nat.le_trans h2 hcap), run_sizeOf hsz]

/-! ### Conversions -/

theorem opS_conv_bytes_str {l : List UInt8} {t : Option Nat} {src dst El T2 : TypeId} (hs : P.underlying src = some (.slice El)) (hE : P.underlying El = some (.int .u8)) (hd : P.underlying dst = some .string) (hx : opv e x = slE Enc.byte l t) :
    OpS P ⟨d, .convert src dst x, T2, pos, after, g⟩ e (S l) := fun I w ρ hρ => by
  obtain ⟨a, cap, xs, e1, hcap, hrl, hor⟩ := rel_slE (hx ▸ hρ x)
  have hfl : Enc.byte.fl l = l.map fun c => u8 c := by
    clear hor hrl e1 hcap hx
    induction l with
    | nil => rfl
    | cons c s ih => rw [Enc.fl_cons, ih]; rfl
  have hxs : xs = l.map fun c => .int .u8 c.toNat := by
    rw [hfl] at hrl
    refine List.ext_getElem (by rw [hrl.1]; simp) fun j h1 h2 => ?_
    have := hrl.2 j (by rw [← hrl.1]; exact h1)
    simp only [List.getElem_map, List.getD, List.getElem?_eq_getElem h1, Option.getD_some] at this ⊢
    exact rel_v this
  refine ⟨.string ⟨l.toArray⟩, .v _, fun w' hw' _ => ?_⟩
  have hc : ∀ w', (∀ b j, Stab I b (j + 1) → w'.cell? ⟨b, j, none⟩ = w.cell? ⟨b, j, none⟩) → (convert src dst (.slice a l.length cap)).run P w' = .ok (.string ⟨l.toArray⟩) w' := fun w' hw' => by
    cases a with
    | none =>
      have h0 : l = [] := by
        rcases hor with h0 | ⟨b, off, h, _⟩
        · exact List.eq_nil_of_length_eq_zero h0
        · cases h
      subst h0
      rw [run_convert_bytes_string w' src dst El none _ cap hs hE hd]
      rfl
    | some ad =>
      refine run_convert_bytes_back w' src dst El ad cap l hs hE hd fun j hj => ?_
      rcases hor with h0 | ⟨b, off, h, hst, hcell⟩
      · omega
      · cases h
        have hfl' : (Enc.byte.fl l).length = l.length := by rw [hfl]; simp
        rw [addr_add, hw' b (off + j) (hst.le (by omega)), hcell j (by omega), hxs]
        simp [List.getD, hj]
  simp only [execOp, e1, hc w' hw', Sem.run_bind, Result.andThen_ok, Sem.run_pure]

theorem opX_conv_str_bytes {s : List UInt8} {src dst El T2 bytes : TypeId} (hs : P.underlying src = some .string) (hd : P.underlying dst = some (.slice El)) (hE : P.underlying El = some (.int .u8)) (hx : opv e x = S s) (hl : s.length ≤ 9223372036854775807) :
    OpX P ⟨d, .convert src dst x, T2, pos, after, g⟩ e A (fun av A' => ∃ t, av = slE Enc.byte s (some t) ∧ A' = .tok t El :: A) := fun F I w ρ hI hρ => by
  have e1 := rel_v (hx ▸ hρ x)
  obtain ⟨t, ht⟩ := hI.fresh_tok
  have hge := grownCap_ge w s.length 0 El
  have hsz : (⟨s.toArray⟩ : ByteArray).size = s.length := by simp [ByteArray.size]
  have hrun := run_bytes_of_string (P := P) w src dst El ⟨s.toArray⟩ hs hd hE
  rw [hsz] at hrun
  generalize grownCap w s.length 0 El = c at hge hrun
  obtain ⟨arr, harr⟩ : ∃ arr : List Value, arr = (s.map fun b => Value.int .u8 b.toNat) ++ List.replicate (c - s.length) (.int .u8 0) := ⟨_, rfl⟩
  have hbr : bytesRow ⟨s.toArray⟩ c = arr.toArray := by
    subst harr
    apply Array.ext'
    simp [bytesRow, hsz]
  have hal : arr.length = c := by subst harr; simp; omega
  rw [hbr] at hrun
  have hID := hI.drew
  have hfz : arr.toArray.size = arr.toArray.size + 1 ∨ arr.length ≤ arr.toArray.size := .inr (by simp)
  have X := hID.new_row ht s.length arr.length (.cells arr.toArray El (arr.toArray.size, arr.toArray.size + 1))
  have hI' := hID.alloc_row ht s.length arr El (arr.toArray.size, arr.toArray.size + 1) (by omega) hfz
  have hfl : Enc.byte.fl s = s.map fun c => u8 c := by
    clear harr hrun hsz hge hbr hx hl e1 X hI'
    induction s with
    | nil => rfl
    | cons c s ih => rw [Enc.fl_cons, ih]; rfl
  have hfll : (Enc.byte.fl s).length = s.length := by rw [hfl]; simp
  refine ⟨_, .slice (some ⟨w.heap.size, 0, none⟩) s.length c, _, _, _, _, ?_, .inl rfl, (Ext.drew I w).trans X, hI', ?_, t, rfl, rfl⟩
  · simp only [execOp, e1, hrun, Sem.run_bind, Result.andThen_ok, Sem.run_pure]
  · refine .sl 1 (Enc.byte.fl s) _ _ 0 _ _ (fun j => arr.getD j undef) (by omega) (by omega) hge ?_ ?_ ?_ ?_
    · intro m hm
      simp only [Info.putTok] at hm
      rw [if_pos (show w.heap.size = w.drew.heap.size from rfl)] at hm
      cases hm; omega
    · intro j hj
      have hj' : j < arr.length := by omega
      rw [Nat.zero_add]
      have hca : CellsAt (w.drew.alloc (.cells arr.toArray El (arr.toArray.size, arr.toArray.size + 1))) w.drew.heap.size arr := ⟨El, _, heap_alloc_eq _ _, hfz⟩
      refine (hca.cell j).trans ?_
      rw [List.getElem?_eq_getElem hj']
      simp [List.getD, hj']
    · intro j hj
      have hj2 : j < s.length := by omega
      have h3 : (Enc.byte.fl s)[j] = u8 s[j] := by simp [hfl]
      rw [h3]
      have h4 : arr.getD j undef = .int .u8 s[j].toNat := by
        subst harr
        rw [List.getD, List.getElem?_append_left (by simpa using hj2)]
        simp [hj2]
      rw [h4]
      exact .v _
    · intro q hq
      cases hq
      refine ⟨?_, rfl⟩
      simp only [Info.putTok, if_true]
      rw [hal, hfll, Nat.mul_one]
      simp
end
end Go.Av
