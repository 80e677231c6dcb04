/-
  Arrays as values, rows of any kind of one cell, rows made, functions made. No program is spoken of.
-/
import Derived.Test.YtjhlnhipjomdeaaGreatDoorAvPan
import Derived.Laws.MakeOwn
set_option linter.unusedVariables false
set_option linter.unusedSimpArgs false
namespace Go.Av
open Go.RowKit Go.Pv

section
variable {α : Type} {E : Enc α}
theorem fl_get (hk : E.k = 1) : ∀ (l : List α) (m : Nat) (h : m < l.length), (E.fl l)[m]? = (E.f l[m])[0]?
  | [], m, h => by simp at h
  | x :: l, 0, h => by
    rw [Enc.fl_cons]
    have := E.len x
    rw [List.getElem?_append_left (by omega)]; rfl
  | x :: l, m + 1, h => by
    rw [Enc.fl_cons]
    have := E.len x
    rw [List.getElem?_append_right (by omega), show m + 1 - (E.f x).length = m by omega, fl_get hk l m (by simpa using h)]
    rfl
theorem fl_set (hk : E.k = 1) {y : α} {c : AV} (hc : E.f y = [c]) : ∀ (l : List α) (m : Nat), m < l.length → (E.fl l).set m c = E.fl (l.set m y)
  | [], m, h => by simp at h
  | x :: l, 0, h => by
    have h1 := E.len x
    rw [Enc.fl_cons, List.set_cons_zero, Enc.fl_cons, hc]
    obtain ⟨d, hd⟩ : ∃ d, E.f x = [d] := by
      cases hx : E.f x with
      | nil => rw [hx] at h1; simp at h1; omega
      | cons d r => cases r with
        | nil => exact ⟨d, rfl⟩
        | cons _ _ => rw [hx] at h1; simp at h1; omega
    rw [hd]; rfl
  | x :: l, m + 1, h => by
    have h1 := E.len x
    rw [Enc.fl_cons, List.set_cons_succ, Enc.fl_cons, List.set_append_right _ _ (by omega), show m + 1 - (E.f x).length = m by omega, fl_set hk hc l m (by simpa using h)]
end

section
variable {P : Program} {e : Env} {d : Option Nat} {T T2 : TypeId} {pos : String} {after : Array Edge} {g : Option (Nat × Bool)} {x y z : Operand} {av : AV} {A : List Chunk}

theorem g_load_rowE {α : Type} [Inhabited α] {E : Enc α} {l : List α} {o n k : Nat} {i : Int} {v : α} {c : AV} {D : TypeDesc} (hk : E.k = 1) (hT : P.underlying T = some D) (hD : aggDesc D = false) (hx : opv e x = .pt o i.toNat) (hA : A[k]? = some (.obj o (E.fl l ++ List.replicate n .any)))
    (hg : okAt i l.length = true) (he : at_ l i = v) (hc : E.f v = [c]) : OpR P ⟨d, .load T x, T2, pos, after, g⟩ e A c A := by
  obtain ⟨h1, h2⟩ := okAt_s hg
  refine opR_load_pt hT hD hx hA ?_
  have hlt : i.toNat < l.length := by omega
  rw [List.getElem?_append_left (by rw [E.fl_length, hk]; omega), fl_get hk l i.toNat hlt]
  have e1 : at_ l i = l[i.toNat] := by
    have := at_nat (l := l) hlt
    rwa [Int.toNat_of_nonneg h1] at this
  rw [← e1, he, hc]; rfl
theorem g_store_rowE {α : Type} {E : Enc α} {l r : List α} {o n k : Nat} {i : Int} {v : α} {c : AV} (hk : E.k = 1) (hsz : cellsAt P T = some 1) (hx : opv e x = .pt o i.toNat) (hy : opv e y = c) (hc : E.f v = [c]) (hA : A[k]? = some (.obj o (E.fl l ++ List.replicate n .any)))
    (hg : okAt i l.length = true) (he : l.set i.toNat v = r) : OpR P ⟨d, .store T x y, T2, pos, after, g⟩ e A .any (A.set k (.obj o (E.fl r ++ List.replicate n .any))) := by
  obtain ⟨h1, h2⟩ := okAt_s hg
  have hcell : isCell c = true := E.cell v c (by rw [hc]; simp)
  have hlt : i.toNat < l.length := by omega
  have := opR_store_pt (P := P) (d := d) (pos := pos) (after := after) (g := g) (T2 := T2) (i := k) hsz hx hy hcell hA (by rw [List.length_append, E.fl_length, hk]; omega)
  rwa [List.set_append_left _ _ (by rw [E.fl_length, hk]; omega), fl_set hk hc l i.toNat hlt, he] at this

/-- A row that is made: so many cells, all zero. -/
theorem opX_makeOwn {α : Type} {E : Enc α} {n : Int} {zv : α} {z0 : Value} {El bytes : Nat} (hT : P.underlying T = some (.slice El)) (hE : elemInfo P El = some (1, bytes)) (hz : zeroCells P El = some [z0]) (hk : E.k = 1) (hb : Nat.ble bytes 1000 = true) (hzv : E.f zv = [.v z0])
    (hx : opv e x = i64 n) (hy : opv e y = i64 n) (hg : okAt n 1000000000 = true) :
    OpX P ⟨d, .makeSlice T x y, T2, pos, after, g⟩ e A (fun av A' => ∃ o, av = .vw o 0 n.toNat n.toNat ∧ A' = .obj o (E.fl (List.replicate n.toNat zv) ++ List.replicate 0 .any) :: A) := fun F I w ρ hI hρ => by
  obtain ⟨h1, h2⟩ := okAt_s hg
  obtain ⟨i, zz, hi, hzz, hs1, hs2, hs3⟩ := elemInfo_parts hE
  have hz' : zz.cells.toList = [z0] := by
    unfold zeroCells at hz
    rw [hi] at hz
    simp only [Option.bind_some, hzz, Option.map_some, Option.some.injEq] at hz
    exact hz
  have hza : zz.cells = #[z0] := by rw [← Array.toList_inj, hz']
  have ex := rel_v (hx ▸ hρ x)
  have ey := rel_v (hy ▸ hρ y)
  have hbl : bytes ≤ 1000 := Nat.le_of_ble_eq_true hb
  have hbb : (i.bytes : Int) * n ≤ 281474976710656 := by
    rw [hs3]
    have h3 : (bytes : Int) * n ≤ 1000 * n := Int.mul_le_mul_of_nonneg_right (by omega) h1
    omega
  have hrun := run_make (P := P) w T El i zz hT hi hzz .i64 .i64 n n h1 (Int.le_refl _) hbb (by omega)
  obtain ⟨o, ho⟩ := hI.fresh_obj
  have hcells : madeCells zz.cells (n.toNat * i.size) = (List.replicate n.toNat z0).toArray := by
    rw [hs2, Nat.mul_one, hza]
    unfold madeCells
    apply Array.ext'
    simp only [Array.toList_map, Array.toList_range]
    apply List.ext_getElem
    · simp
    · intro j h1 h2; simp [Nat.mod_one]
  rw [hcells] at hrun
  have hrl : RelL I w (E.fl (List.replicate n.toNat zv) ++ List.replicate 0 .any) (List.replicate n.toNat z0) := by
    have : E.fl (List.replicate n.toNat zv) = (List.replicate n.toNat z0).map AV.v := by
      generalize n.toNat = m
      induction m with
      | zero => rfl
      | succ m ih => rw [List.replicate_succ, Enc.fl_cons, hzv, ih, List.replicate_succ]; rfl
    rw [this, List.replicate_zero, List.append_nil]
    exact relL_vals _
  refine ⟨_, .slice (some ⟨w.heap.size, 0, none⟩) n.toNat n.toNat, _, _, _, _, ?_, .inl rfl, hI.new_obj ho _, hI.alloc_obj ho El hrl, .vw o 0 _ _ _ (by simp [Info.putObj]), o, rfl, rfl⟩
  simp only [execOp, ex, ey, Sem.run_bind, hrun, Result.andThen_ok, Sem.run_pure]

/-- A function is made. -/
theorem opS_makeFunc {f : Fn} {first captured : Array Operand} {as bs : List AV} (h1 : first.toList.map (opv e) = as) (h2 : captured.toList.map (opv e) = bs) : OpS P ⟨d, .makeFunc f first captured, T2, pos, after, g⟩ e (.fn f as bs) := fun I w ρ hρ => by
  have r1 : RelL I w as (first.toList.map ρ) := by rw [← h1]; exact RelL.map _ _ _ fun x _ => hρ x
  have r2 : RelL I w bs (captured.toList.map ρ) := by rw [← h2]; exact RelL.map _ _ _ fun x _ => hρ x
  refine ⟨.func f (first.map ρ) (captured.map ρ), ?_, fun w' _ _ => rfl⟩
  have := Rel.fn (I := I) (w := w) f as bs _ _ r1.1 r1.2 r2.1 r2.2
  rwa [show (first.toList.map ρ).toArray = first.map ρ by apply Array.ext'; simp, show (captured.toList.map ρ).toArray = captured.map ρ by apply Array.ext'; simp] at this

/-- An array's part. -/
theorem opS_index_one {cs : List AV} {c : AV} {len El k : Nat} {q : IntKind} {i : Nat} {D : TypeDesc} (hT : P.underlying T = some (.array len El)) (hE : P.underlying El = some D) (hD : aggDesc D = false) (hsz : cellsAt P El = some 1) (hx : opv e x = .agg cs) (hy : opv e y = .v (.int q (i : Int))) (hi : Nat.blt i len = true) (hc : cs[i]? = some c) :
    OpS P ⟨d, .index T x y, T2, pos, after, g⟩ e c := fun I w ρ hρ => by
  have ey := rel_v (hy ▸ hρ y)
  have h := hx ▸ hρ x
  generalize e1 : ρ x = v at h
  have hi' : i < len := Nat.le_of_ble_eq_true hi
  cases h with
  | agg cs xs hl hr =>
    obtain ⟨hlt, rfl⟩ := List.getElem?_eq_some_iff.1 hc
    have hlt' : i < xs.length := by omega
    refine ⟨xs.getD i undef, hr i hlt, fun w' _ _ => ?_⟩
    simp only [execOp, e1, ey, Instr.index, asIntOf, Sem.run_bind, Sem.run_pure, Result.andThen_ok, run_underlying hT, run_sizeOf hsz, part, run_isAgg hE hD]
    rw [if_pos ⟨by omega, by omega⟩]
    simp [run_sizeOf hsz, part, run_isAgg hE hD, hlt', List.getD]
theorem opS_index_sub {cs : List AV} {len El k : Nat} {q : IntKind} {i : Nat} {D : TypeDesc} (hT : P.underlying T = some (.array len El)) (hE : P.underlying El = some D) (hD : aggDesc D = true) (hsz : cellsAt P El = some k) (hx : opv e x = .agg cs) (hy : opv e y = .v (.int q (i : Int))) (hi : Nat.blt i len = true) (hl0 : Nat.ble (i * k + k) cs.length = true) :
    OpS P ⟨d, .index T x y, T2, pos, after, g⟩ e (.agg ((cs.drop (i * k)).take k)) := fun I w ρ hρ => by
  have ey := rel_v (hy ▸ hρ y)
  have h := hx ▸ hρ x
  generalize e1 : ρ x = v at h
  have hi' : i < len := Nat.le_of_ble_eq_true hi
  have hl0' : i * k + k ≤ cs.length := Nat.le_of_ble_eq_true hl0
  cases h with
  | agg cs xs hl hr =>
    refine ⟨.agg ((xs.drop (i * k)).take k).toArray, .agg _ _ (by simp; omega) (fun j hj => ?_), fun w' _ _ => ?_⟩
    · have hj' : j < k := by simp at hj; omega
      have h1 := hr (i * k + j) (by omega)
      simp only [List.getElem_take, List.getElem_drop]
      simp only [List.getD, List.getElem?_take, List.getElem?_drop, hj', if_true] at h1 ⊢
      exact h1
    · simp only [execOp, e1, ey, Instr.index, asIntOf, Sem.run_bind, Sem.run_pure, Result.andThen_ok, run_underlying hT]
      rw [if_pos ⟨by omega, by omega⟩]
      simp only [Sem.run_bind, run_sizeOf hsz, Result.andThen_ok, part, run_isAgg hE hD, if_true, Sem.run_pure, Int.toNat_natCast]
      congr 3
      apply Array.ext'
      simp [List.extract_eq_take_drop]
/-- A part of an array of cells of one kind, wherever it stands. -/
theorem opS_index_enc {α : Type} [Inhabited α] {E : Enc α} {l : List α} {len El : Nat} {q : IntKind} {i : Int} {v : α} {c : AV} {D : TypeDesc} (hk : E.k = 1) (hT : P.underlying T = some (.array len El)) (hE : P.underlying El = some D) (hD : aggDesc D = false) (hsz : cellsAt P El = some 1) (hx : opv e x = .agg (E.fl l)) (hy : opv e y = .v (.int q i)) (hll : Nat.beq l.length len = true) (hg : okAt i len = true) (he : at_ l i = v) (hc : E.f v = [c]) :
    OpS P ⟨d, .index T x y, T2, pos, after, g⟩ e c := by
  obtain ⟨h1, h2⟩ := okAt_s hg
  have hll' := Nat.eq_of_beq_eq_true hll
  have hlt : i.toNat < l.length := by omega
  have e1 : v = l[i.toNat] := by
    have := at_nat (l := l) hlt
    rw [Int.toNat_of_nonneg h1] at this
    rw [← he, this]
  have hy' : opv e y = .v (.int q ((i.toNat : Nat) : Int)) := by rw [Int.toNat_of_nonneg h1]; exact hy
  refine opS_index_one (k := 1) hT hE hD hsz hx hy' (Nat.ble_eq_true_of_le (by omega)) ?_
  rw [fl_get hk l _ hlt, ← e1, hc]; rfl
/-- A place of an array in an object, wherever it stands. -/
theorem opS_indexAddr_arrv {o off len El : Nat} {q : IntKind} {i : Int} (hT : P.underlying T = some (.array len El)) (hsz : cellsAt P El = some 1) (hx : opv e x = .pt o off) (hy : opv e y = .v (.int q i)) (hg : okAt i len = true) :
    OpS P ⟨d, .indexAddr T x y, T2, pos, after, g⟩ e (.pt o (off + i.toNat)) := by
  obtain ⟨h1, h2⟩ := okAt_s hg
  have := opS_indexAddr_arr (P := P) (d := d) (pos := pos) (after := after) (g := g) (T2 := T2) (Ar := 0) (m := i.toNat) hT hsz hx hy (Int.toNat_of_nonneg h1).symm (by omega)
  simpa using this
theorem g_load_arr {α : Type} [Inhabited α] {E : Enc α} {pre post : List AV} {l : List α} {o off k : Nat} {i : Int} {v : α} {c : AV} {D : TypeDesc} (hk : E.k = 1) (hT : P.underlying T = some D) (hD : aggDesc D = false) (hx : opv e x = .pt o (off + i.toNat)) (hA : A[k]? = some (.obj o (pre ++ (E.fl l ++ post)))) (hp : Nat.beq pre.length off = true)
    (hg : okAt i l.length = true) (he : at_ l i = v) (hc : E.f v = [c]) : OpR P ⟨d, .load T x, T2, pos, after, g⟩ e A c A := by
  obtain ⟨h1, h2⟩ := okAt_s hg
  have hp' := Nat.eq_of_beq_eq_true hp
  refine opR_load_pt hT hD hx hA ?_
  have hlt : i.toNat < l.length := by omega
  rw [List.getElem?_append_right (by omega), show off + i.toNat - pre.length = i.toNat by omega, List.getElem?_append_left (by rw [E.fl_length, hk]; omega), fl_get hk l i.toNat hlt]
  have e1 : at_ l i = l[i.toNat] := by
    have := at_nat (l := l) hlt
    rwa [Int.toNat_of_nonneg h1] at this
  rw [← e1, he, hc]; rfl

theorem fill_congr {f g : Nat → Option (Nat × Nat)} : ∀ (parts : List (Nat × Value)) (cells : Array Value), (∀ p ∈ parts, f p.1 = g p.1) → Instr.fill f cells parts = Instr.fill g cells parts
  | [], _, _ => rfl
  | p :: r, cells, h => by
    have h1 := h p (List.mem_cons_self ..)
    have h2 : ∀ c, Instr.fill f c r = Instr.fill g c r := fun c => fill_congr r c fun q hq => h q (List.mem_cons_of_mem _ hq)
    obtain ⟨i, x⟩ := p
    simp only [Instr.fill, h1, h2]

/-- An array of parts. -/
theorem g_buildArr {parts : Array (Nat × Operand)} {zs : List Value} {cs : List AV} {len El k : Nat} (hT : P.underlying T = some (.array len El)) (hsz : cellsAt P El = some k) (hz : zeroCells P T = some zs) (hb : (parts.toList.all fun p => Nat.blt p.1 len) = true)
    (hok : okParts e parts.toList = true) (hf : fillA ((List.range len).map fun i => (i * k, k)) (zs.map .v) (parts.toList.map fun p => (p.1, opv e p.2)) = some cs) : OpS P ⟨d, .build T parts, T2, pos, after, g⟩ e (.agg cs) := fun I w ρ hρ => by
  have hok' : ∀ p ∈ parts.toList, isCell (opv e p.2) = true ∨ ∃ cs, opv e p.2 = .agg cs := fun p hp => by
    have h := List.all_eq_true.1 hok p hp
    cases hc : isCell (opv e p.2) with
    | true => exact .inl rfl
    | false => rw [hc, Bool.false_or] at h; exact .inr (isAgg_s h)
  have hb' : ∀ p ∈ parts.toList, p.1 < len := fun p hp => Nat.le_of_ble_eq_true (List.all_eq_true.1 hb p hp)
  have hz0 : RelL I w (zs.map .v) zs := relL_vals _
  obtain ⟨ys, hy, hyr⟩ := fill_rel (I := I) (w := w) ((List.range len).map fun i => (i * k, k)) _ (parts.toList.map fun p => (p.1, ρ p.2)) _ _ cs (by simp) (fun j hj => by
    have hj' : j < parts.toList.length := by simpa using hj
    simp only [List.getElem_map, List.map_map, List.getD, List.getElem?_map, List.getElem?_eq_getElem hj', Option.map_some, Option.getD_some, Function.comp]
    exact rel_cells (hρ _) (hok' _ (List.getElem_mem hj'))) hz0 hf
  refine ⟨.agg ys.toArray, .agg cs ys hyr.1 hyr.2, fun w' _ _ => ?_⟩
  obtain ⟨z, hzrun, hzc⟩ := run_zeroValue hz w'
  have hpm : (parts.map fun (i, x) => (i, ρ x)).toList = parts.toList.map fun p => (p.1, ρ p.2) := by simp
  have hza : z.cells = zs.toArray := by rw [← hzc]
  have hy2 : Instr.fill (fun i => some (i * k, k)) zs.toArray (parts.toList.map fun p => (p.1, ρ p.2)) = some ys.toArray := by
    rw [← hy]
    refine fill_congr _ _ fun p hp => ?_
    obtain ⟨q, hq, rfl⟩ := List.mem_map.1 hp
    have := hb' q hq
    simp [this]
  simp only [execOp, Instr.build, Sem.run_bind, hzrun, Result.andThen_ok, run_underlying hT, run_sizeOf hsz, hpm, hza, hy2, Sem.run_pure]
end
end Go.Av
