/-
  The operations on memory, by content. No program is spoken of.
-/
import Derived.Test.YtjhlnhipjomdeaaGreatDoorAvOps
import Derived.Laws.IdiomCopy
set_option linter.unusedVariables false
set_option linter.unusedSimpArgs false
namespace Go.Av
open Go.RowKit

theorem addr_add (b off i : Nat) : (⟨b, off, none⟩ : Addr).add i = ⟨b, off + i, none⟩ := by unfold Addr.add; split <;> simp_all

/-- What a slice by content is in memory. -/
theorem rel_sl {I : Info} {w : World} {k n : Nat} {cs : List AV} {t : Option Nat} {x : Value} (h : Rel I w (.sl k cs t) x) (hk : 0 < k) (hn : cs.length = n * k) :
    ∃ a cap xs, x = .slice a n cap ∧ n ≤ cap ∧ RelL I w cs xs ∧
      (n = 0 ∨ ∃ b off, a = some ⟨b, off, none⟩ ∧ Stab I b (off + cs.length) ∧ ∀ j, j < cs.length → w.cell? ⟨b, off + j, none⟩ = some (xs.getD j undef)) := by
  cases h with
  | slz k a cap =>
    have : n = 0 := by
      rcases Nat.eq_zero_or_pos n with h | h
      · exact h
      · have := Nat.mul_pos h hk; simp at hn; omega
    subst this
    exact ⟨a, cap, [], rfl, Nat.zero_le _, RelL.nil, .inl rfl⟩
  | slnil k t ht =>
    have : n = 0 := by
      rcases Nat.eq_zero_or_pos n with h | h
      · exact h
      · have := Nat.mul_pos h hk; simp at hn; omega
    subst this
    exact ⟨none, 0, [], rfl, Nat.zero_le _, RelL.nil, .inl rfl⟩
  | sl k cs t b off len cap xs hk' hlen hcap hst hx hr ht =>
    have : len = n := Nat.eq_of_mul_eq_mul_right hk (hlen.trans hn)
    subst this
    have hg : ∀ j, j < cs.length → ((List.range cs.length).map xs).getD j undef = xs j := fun j hj => by simp [List.getD, hj]
    refine ⟨_, cap, (List.range cs.length).map xs, rfl, hcap, ⟨by simp, fun j hj => ?_⟩, .inr ⟨b, off, rfl, hst, fun j hj => ?_⟩⟩
    · rw [hg j hj]; exact hr j hj
    · rw [hg j hj]; exact hx j hj

theorem rel_slE {α : Type} {E : Enc α} {I : Info} {w : World} {l : List α} {t : Option Nat} {x : Value} (h : Rel I w (slE E l t) x) :
    ∃ a cap xs, x = .slice a l.length cap ∧ l.length ≤ cap ∧ RelL I w (E.fl l) xs ∧
      (l.length = 0 ∨ ∃ b off, a = some ⟨b, off, none⟩ ∧ Stab I b (off + (E.fl l).length) ∧ ∀ j, j < (E.fl l).length → w.cell? ⟨b, off + j, none⟩ = some (xs.getD j undef)) :=
  rel_sl h E.pos (E.fl_length l)

theorem Enc.fl_at {α : Type} (E : Enc α) {l : List α} {m : Nat} {a : α} (h : l[m]? = some a) : ∃ ds, (E.fl l).drop (m * E.k) = E.f a ++ ds := by
  refine ⟨(E.fl l).drop ((m + 1) * E.k), ?_⟩
  have hlt : m < l.length := (List.getElem?_eq_some_iff.1 h).1
  have ha : l[m] = a := (List.getElem?_eq_some_iff.1 h).2
  rw [← E.fl_drop, ← E.fl_drop, List.drop_eq_getElem_cons hlt, E.fl_cons, ha]

section
variable {P : Program} {e : Env} {d : Option Nat} {T : TypeId} {pos : String} {after : Array Edge} {g : Option (Nat × Bool)} {x y : Operand} {av : AV} {A : List Chunk} {I : Info} {w : World}

/-! ### Lengths -/

theorem opS_len_str {s : List UInt8} {T2 : TypeId} (hT : P.underlying T = some .string) (hx : opv e x = S s) : OpS P ⟨d, .call ⟨.builtin .len, #[x], #[T]⟩, T2, pos, after, g⟩ e (i64 s.length) := fun I w ρ hρ => by
  have h1 := rel_v (hx ▸ hρ x)
  refine ⟨_, .v _, fun w' _ _ => ?_⟩
  simp only [execOp, resolve, List.map_toArray, List.map_cons, List.map_nil, h1, Sem.run_bind, Sem.run_pure, Result.andThen_ok, invoke, builtin, Builtin.len_]
  simp only [List.getElem?_toArray, List.getElem?_cons_zero, run_underlying hT, Sem.run_bind, Sem.run_pure, Result.andThen_ok, goInt]
  rfl

theorem opS_len_sl {α : Type} {E : Enc α} {l : List α} {t : Option Nat} {El T2 : TypeId} (hT : P.underlying T = some (.slice El)) (hx : opv e x = slE E l t) :
    OpS P ⟨d, .call ⟨.builtin .len, #[x], #[T]⟩, T2, pos, after, g⟩ e (i64 l.length) := fun I w ρ hρ => by
  obtain ⟨a, cap, xs, h1, _⟩ := rel_slE (hx ▸ hρ x)
  refine ⟨_, .v _, fun w' _ _ => ?_⟩
  simp only [execOp, resolve, List.map_toArray, List.map_cons, List.map_nil, h1, Sem.run_bind, Sem.run_pure, Result.andThen_ok, invoke, builtin, Builtin.len_]
  simp only [List.getElem?_toArray, List.getElem?_cons_zero, run_underlying hT, Sem.run_bind, Sem.run_pure, Result.andThen_ok, goInt]

theorem opS_len_nil {El T2 : TypeId} (hT : P.underlying T = some (.slice El)) (hx : opv e x = nilS) : OpS P ⟨d, .call ⟨.builtin .len, #[x], #[T]⟩, T2, pos, after, g⟩ e (i64 0) := fun I w ρ hρ => by
  have h1 := rel_v (hx ▸ hρ x)
  refine ⟨_, .v _, fun w' _ _ => ?_⟩
  simp only [execOp, resolve, List.map_toArray, List.map_cons, List.map_nil, h1, Sem.run_bind, Sem.run_pure, Result.andThen_ok, invoke, builtin, Builtin.len_]
  simp only [List.getElem?_toArray, List.getElem?_cons_zero, run_underlying hT, Sem.run_bind, Sem.run_pure, Result.andThen_ok, goInt]
  rfl

/-! ### A text's bytes and pieces -/

theorem opS_index_str {s : List UInt8} {q : IntKind} {n : Int} {m : Nat} {c : UInt8} (hT : P.underlying T = some .string) (hx : opv e x = S s) (hy : opv e y = .v (.int q n)) (hm : n = m) (hc : s[m]? = some c) {T2 : TypeId} :
    OpS P ⟨d, .index T x y, T2, pos, after, g⟩ e (u8 c) := fun I w ρ hρ => by
  have h1 := rel_v (hx ▸ hρ x)
  have h2 := rel_v (hy ▸ hρ y)
  refine ⟨_, .v _, fun w' _ _ => ?_⟩
  have hlt : m < s.length := (List.getElem?_eq_some_iff.1 hc).1
  have hg : (⟨s.toArray⟩ : ByteArray)[m]? = some c := by
    have h3 : m < (⟨s.toArray⟩ : ByteArray).size := by simpa [ByteArray.size] using hlt
    rw [getElem?_pos (⟨s.toArray⟩ : ByteArray) m h3]
    have := (List.getElem?_eq_some_iff.1 hc).2
    simp only [Option.some.injEq]
    exact this
  subst hm
  simp only [execOp, h1, h2, Instr.index, asIntOf, Sem.run_bind, Sem.run_pure, Result.andThen_ok, run_underlying hT, Int.natCast_nonneg, if_true, Int.toNat_natCast, hg]

theorem extract_mk (s : List UInt8) (lo hi : Nat) : (⟨s.toArray⟩ : ByteArray).extract lo hi = ⟨((s.take hi).drop lo).toArray⟩ := by
  apply ByteArray.ext
  apply Array.ext'
  simp [List.extract_eq_take_drop, List.take_drop]
  by_cases h : lo ≤ hi
  · rw [show lo + (hi - lo) = hi by omega]
  · rw [List.drop_eq_nil_of_le (show (List.take hi s).length ≤ lo by simp; omega), List.drop_eq_nil_of_le (by simp; omega)]

theorem run_bound {q : IntKind} {n : Int} {m top : Nat} {code : BoundsCode} (hm : n = m) (ht : m ≤ top) (w : World) : (Instr.sliceBound (.int q n) top code).run P w = .ok m w := by
  subst hm
  simp only [Instr.sliceBound, asIntOf, Sem.run_bind, Sem.run_pure, Result.andThen_ok]
  rw [if_pos ⟨Int.natCast_nonneg _, by omega⟩]
  simp

/-- Pieces of a text: from lo on up to hi. -/
theorem opS_slice_str {s : List UInt8} {q q' : IntKind} {n n' : Int} {lo hi : Nat} {z : Operand} {T2 : TypeId} (hT : P.underlying T = some .string) (hx : opv e x = S s) (hy : opv e y = .v (.int q n)) (hz : opv e z = .v (.int q' n'))
    (hn : n = lo) (hn' : n' = hi) (h1 : lo ≤ hi) (h2 : hi ≤ s.length) : OpS P ⟨d, .slice T x (some y) (some z) none, T2, pos, after, g⟩ e (S ((s.take hi).drop lo)) := fun I w ρ hρ => by
  have e1 := rel_v (hx ▸ hρ x)
  have e2 := rel_v (hy ▸ hρ y)
  have e3 := rel_v (hz ▸ hρ z)
  refine ⟨_, .v _, fun w' _ _ => ?_⟩
  have hs : (⟨s.toArray⟩ : ByteArray).size = s.length := by simp [ByteArray.size]
  simp only [execOp, e1, e2, e3, Option.map_some, Option.map_none, Instr.sliceAt, Instr.slice, Instr.sliceBounds, run_underlying hT, Sem.run_bind, Sem.run_pure, Result.andThen_ok, Option.isSome_none, Bool.false_eq_true, if_false, hs,
    run_bound hn' h2, run_bound hn h1, extract_mk]
theorem opS_slice_str_from {s : List UInt8} {q : IntKind} {n : Int} {lo : Nat} {T2 : TypeId} (hT : P.underlying T = some .string) (hx : opv e x = S s) (hy : opv e y = .v (.int q n))
    (hn : n = lo) (h1 : lo ≤ s.length) : OpS P ⟨d, .slice T x (some y) none none, T2, pos, after, g⟩ e (S (s.drop lo)) := fun I w ρ hρ => by
  have e1 := rel_v (hx ▸ hρ x)
  have e2 := rel_v (hy ▸ hρ y)
  refine ⟨_, .v _, fun w' _ _ => ?_⟩
  have hs : (⟨s.toArray⟩ : ByteArray).size = s.length := by simp [ByteArray.size]
  simp only [execOp, e1, e2, Option.map_some, Option.map_none, Instr.sliceAt, Instr.slice, Instr.sliceBounds, run_underlying hT, Sem.run_bind, Sem.run_pure, Result.andThen_ok, Option.isSome_none, Bool.false_eq_true, if_false, hs,
    run_bound hn h1, extract_mk, List.take_length]
theorem opS_slice_str_to {s : List UInt8} {q' : IntKind} {n' : Int} {hi : Nat} {z : Operand} {T2 : TypeId} (hT : P.underlying T = some .string) (hx : opv e x = S s) (hz : opv e z = .v (.int q' n'))
    (hn' : n' = hi) (h2 : hi ≤ s.length) : OpS P ⟨d, .slice T x none (some z) none, T2, pos, after, g⟩ e (S (s.take hi)) := fun I w ρ hρ => by
  have e1 := rel_v (hx ▸ hρ x)
  have e3 := rel_v (hz ▸ hρ z)
  refine ⟨_, .v _, fun w' _ _ => ?_⟩
  have hs : (⟨s.toArray⟩ : ByteArray).size = s.length := by simp [ByteArray.size]
  simp only [execOp, e1, e3, Option.map_some, Option.map_none, Instr.sliceAt, Instr.slice, Instr.sliceBounds, run_underlying hT, Sem.run_bind, Sem.run_pure, Result.andThen_ok, Option.isSome_none, Bool.false_eq_true, if_false, hs,
    run_bound hn' h2, extract_mk, List.drop_zero]

/-! ### Elements -/

/-- The size of a type's value, in cells. -/
def cellsAt (P : Program) (t : TypeId) : Option Nat := (P.info? t).map (·.size)
theorem run_sizeOf {t n : Nat} (h : cellsAt P t = some n) (w : World) : (sizeOf t).run P w = .ok n w := by
  unfold cellsAt at h
  obtain ⟨i, hi, rfl⟩ := Option.map_eq_some_iff.1 h
  simp [sizeOf, typeInfo, hi, program, Sem.run]

theorem opS_indexAddr {α : Type} {E : Enc α} {l : List α} {t : Option Nat} {q : IntKind} {n : Int} {m : Nat} {a : α} {El T2 : TypeId} (hT : P.underlying T = some (.slice El)) (hsz : cellsAt P El = some E.k)
    (hx : opv e x = slE E l t) (hy : opv e y = .v (.int q n)) (hm : n = m) (ha : l[m]? = some a) : OpS P ⟨d, .indexAddr T x y, T2, pos, after, g⟩ e (cpE E a) := fun I w ρ hρ => by
  obtain ⟨ad, cap, xs, e1, hcap, hrl, hor⟩ := rel_slE (hx ▸ hρ x)
  have e2 := rel_v (hy ▸ hρ y)
  have hlt : m < l.length := (List.getElem?_eq_some_iff.1 ha).1
  rcases hor with h0 | ⟨b, off, rfl, hst, hc⟩
  · omega
  obtain ⟨ds, hds⟩ := E.fl_at ha
  have hfl : (E.fl l).length = l.length * E.k := E.fl_length l
  have hmk : (m + 1) * E.k ≤ l.length * E.k := Nat.mul_le_mul_right _ hlt
  have hmk' : (m + 1) * E.k = m * E.k + E.k := Nat.succ_mul _ _
  have hfk := E.len a
  refine ⟨.pointer (some ⟨b, off + m * E.k, none⟩), .cp _ b _ (fun j => xs.getD (m * E.k + j) undef) (hst.le (by omega)) (fun j hj => ?_) (fun j hj => ?_), fun w' hw' _ => ?_⟩
  · rw [← hc _ (by omega), Nat.add_assoc]
  · have hj' : m * E.k + j < (E.fl l).length := by omega
    have := hrl.2 _ hj'
    have h3 : (E.fl l)[m * E.k + j] = (E.f a)[j] := by
      have h4 : ((E.fl l).drop (m * E.k))[j]? = (E.f a)[j]? := by rw [hds, List.getElem?_append_left (by omega)]
      rw [List.getElem?_drop, List.getElem?_eq_getElem hj', List.getElem?_eq_getElem hj] at h4
      exact Option.some.inj h4
    rw [h3] at this; exact this
  · subst hm
    simp only [execOp, e1, e2, Instr.indexAt, asIntOf, Sem.run_bind, Sem.run_pure, Result.andThen_ok, run_underlying hT]
    rw [if_pos ⟨Int.natCast_nonneg _, by omega⟩]
    simp only [Sem.run_bind, run_sizeOf hsz, Result.andThen_ok, Sem.run_pure, Int.toNat_natCast, addr_add]

theorem opS_indexAddr_lt {α : Type} {E : Enc α} {l : List α} {t : Option Nat} {q : IntKind} {n : Int} {m : Nat} {El T2 : TypeId} (hT : P.underlying T = some (.slice El)) (hsz : cellsAt P El = some E.k)
    (hx : opv e x = slE E l t) (hy : opv e y = .v (.int q n)) (hm : n = m) (ha : m < l.length) : OpS P ⟨d, .indexAddr T x y, T2, pos, after, g⟩ e (cpE E l[m]) := opS_indexAddr hT hsz hx hy hm (List.getElem?_eq_getElem ha)
theorem opS_index_str_lt {s : List UInt8} {q : IntKind} {n : Int} {m : Nat} (hT : P.underlying T = some .string) (hx : opv e x = S s) (hy : opv e y = .v (.int q n)) (hm : n = m) (hc : m < s.length) {T2 : TypeId} :
    OpS P ⟨d, .index T x y, T2, pos, after, g⟩ e (u8 s[m]) := opS_index_str hT hx hy hm (List.getElem?_eq_getElem hc)

def aggDesc : TypeDesc → Bool
  | .struct _ | .array _ _ => true
  | _ => false
theorem run_isAgg {t : TypeId} {D : TypeDesc} {b : Bool} (h : P.underlying t = some D) (hD : aggDesc D = b) (w : World) : (isAgg t).run P w = .ok b w := by
  simp only [isAgg, Sem.run_bind, run_underlying h, Result.andThen_ok]
  cases D <;> simp only [aggDesc] at hD <;> subst hD <;> rfl

theorem opS_load_cp {c : AV} {r : List AV} {D : TypeDesc} {T2 : TypeId} (hT : P.underlying T = some D) (hD : aggDesc D = false) (hx : opv e x = .cp (c :: r)) : OpS P ⟨d, .load T x, T2, pos, after, g⟩ e c := fun I w ρ hρ => by
  have h := hx ▸ hρ x
  generalize e1 : ρ x = v at h
  cases h with
  | cp cs b off xs hst hc hr =>
    refine ⟨xs 0, hr 0 (by simp), fun w' hw' _ => ?_⟩
    have h0 : w'.cell? ⟨b, off, none⟩ = some (xs 0) := (hw' b off (hst.le (by simp))).trans (by simpa using hc 0 (by simp))
    simp only [execOp, e1, Instr.loadAt, Instr.sureAddr, Sem.run_bind, Sem.run_pure, Result.andThen_ok, loadVar, run_isAgg hT hD, Bool.false_eq_true, if_false, run_load, h0]

theorem opS_load_cp_agg {cs : List AV} {n : Nat} {D : TypeDesc} {T2 : TypeId} (hT : P.underlying T = some D) (hD : aggDesc D = true) (hsz : cellsAt P T = some n) (hx : opv e x = .cp cs) (hn : n ≤ cs.length) :
    OpS P ⟨d, .load T x, T2, pos, after, g⟩ e (.agg (cs.take n)) := fun I w ρ hρ => by
  have h := hx ▸ hρ x
  generalize e1 : ρ x = v at h
  cases h with
  | cp cs b off xs hst hc hr =>
    refine ⟨.agg ((List.range n).map xs).toArray, .agg _ _ (by simp; omega) (fun j hj => ?_), fun w' hw' _ => ?_⟩
    · have hj' : j < n := by simp at hj; omega
      have : ((List.range n).map xs).getD j undef = xs j := by simp [List.getD, hj']
      rw [this, List.getElem_take]; exact hr j (by omega)
    have hl : (loadCells ⟨b, off, none⟩ n).run P w' = .ok ((List.range n).map xs).toArray w' := run_loadCells w' _ n xs (fun j hj => by
      rw [addr_add]; exact (hw' b (off + j) (hst.le (by omega))).trans (hc j (by omega)))
    simp only [execOp, e1, Instr.loadAt, Instr.sureAddr, Sem.run_bind, Sem.run_pure, Result.andThen_ok, loadVar, run_isAgg hT hD, if_true, run_sizeOf hsz, hl]

/-- Where a field lies. -/
def fieldOff (P : Program) (s : TypeId) (f : Nat) : Option Nat :=
  match P.underlying s with
  | some (.struct fs) => match fs[f]? with
    | some fd => if (cellsAt P fd.type).getD 0 = 0 then none else some fd.offset
    | none => none
  | _ => none

theorem run_fieldAt {s : TypeId} {f n : Nat} (h : fieldOff P s f = some n) (b off : Nat) (w : World) : (Instr.fieldAt s (.pointer (some ⟨b, off, none⟩)) f).run P w = .ok (.pointer (some ⟨b, off + n, none⟩)) w := by
  unfold fieldOff at h
  cases hu : P.underlying s with
  | none => rw [hu] at h; cases h
  | some D =>
    rw [hu] at h
    cases D with
    | struct fs =>
      simp only at h
      cases hf : fs[f]? with
      | none => rw [hf] at h; cases h
      | some fd =>
        rw [hf] at h
        simp only at h
        split at h
        · cases h
        · rename_i hz
          cases h
          cases hc : cellsAt P fd.type with
          | none => rw [hc] at hz; simp at hz
          | some k =>
            rw [hc] at hz
            simp only [Option.getD_some] at hz
            simp only [Instr.fieldAt, Sem.run_bind, run_underlying hu, Result.andThen_ok, hf, Instr.sureAddr, Sem.run_pure, fieldPlace, run_sizeOf hc, if_neg hz, addr_add]
    | _ => cases h

theorem opS_fieldAddr_cp {cs : List AV} {f n : Nat} {T2 : TypeId} (hf : fieldOff P T f = some n) (hx : opv e x = .cp cs) (hn : n ≤ cs.length) : OpS P ⟨d, .fieldAddr T x f, T2, pos, after, g⟩ e (.cp (cs.drop n)) := fun I w ρ hρ => by
  have h := hx ▸ hρ x
  generalize e1 : ρ x = v at h
  cases h with
  | cp cs b off xs hst hc hr =>
    refine ⟨.pointer (some ⟨b, off + n, none⟩), .cp _ b _ (fun j => xs (n + j)) (hst.le (by simp; omega)) (fun j hj => ?_) (fun j hj => ?_), fun w' _ _ => ?_⟩
    · simp at hj; rw [Nat.add_assoc]; exact hc _ (by omega)
    · simp at hj; rw [List.getElem_drop]; exact hr _ (by omega)
    · simp only [execOp, e1, Sem.run_bind, run_fieldAt hf, Result.andThen_ok, Sem.run_pure]
theorem opS_fieldAddr_pt {o off f n : Nat} {T2 : TypeId} (hf : fieldOff P T f = some n) (hx : opv e x = .pt o off) : OpS P ⟨d, .fieldAddr T x f, T2, pos, after, g⟩ e (.pt o (off + n)) := fun I w ρ hρ => by
  have h := hx ▸ hρ x
  generalize e1 : ρ x = v at h
  cases h with
  | pt o off b h => exact ⟨.pointer (some ⟨b, off + n, none⟩), .pt _ _ b h, fun w' _ _ => by simp only [execOp, e1, Sem.run_bind, run_fieldAt hf, Result.andThen_ok, Sem.run_pure]⟩

theorem opS_nilCheck_pt {o off : Nat} {T2 : TypeId} (hx : opv e x = .pt o off) : OpS P ⟨d, .nilCheck x, T2, pos, after, g⟩ e (.pt o off) := fun I w ρ hρ => by
  have h := hx ▸ hρ x
  generalize e1 : ρ x = v at h
  cases h with
  | pt o off b h => exact ⟨_, .pt _ _ b h, fun w' _ _ => by simp only [execOp, e1, Sem.run_pure]⟩
theorem opS_nilCheck_cp {cs : List AV} {T2 : TypeId} (hx : opv e x = .cp cs) : OpS P ⟨d, .nilCheck x, T2, pos, after, g⟩ e (.cp cs) := fun I w ρ hρ => by
  have h := hx ▸ hρ x
  generalize e1 : ρ x = v at h
  cases h with
  | cp cs b off xs hst hc hr => exact ⟨_, .cp cs b off xs hst hc hr, fun w' _ _ => by simp only [execOp, e1, Sem.run_pure]⟩
theorem opS_nilCheck_fn {f : Nat} {as bs : List AV} {T2 : TypeId} (hx : opv e x = .fn (.func f) as bs) : OpS P ⟨d, .nilCheck x, T2, pos, after, g⟩ e (.fn (.func f) as bs) := fun I w ρ hρ => by
  have h := hx ▸ hρ x
  generalize e1 : ρ x = v at h
  cases h with
  | fn f as bs xs ys h1 h2 h3 h4 => exact ⟨_, .fn _ as bs xs ys h1 h2 h3 h4, fun w' _ _ => by simp only [execOp, e1, Sem.run_pure]⟩

/-! ### Objects of the call's own -/

theorem mem_app {c : Chunk} {i : Nat} (h : A[i]? = some c) (F : List Chunk) : c ∈ A ++ F := List.mem_append_left _ (List.mem_of_getElem? h)

theorem perm_at {α : Type} : ∀ (A : List α) (i : Nat) (c : α), A[i]? = some c → A.Perm (c :: A.eraseIdx i)
  | [], i, c, h => by cases h
  | a :: A, 0, c, h => by simp at h; subst h; exact List.Perm.refl _
  | a :: A, i + 1, c, h => by
    have := perm_at A i c (by simpa using h)
    exact (this.cons a).trans (List.Perm.swap _ _ _)
theorem perm_set {α : Type} : ∀ (A : List α) (i : Nat) (c c' : α), A[i]? = some c → (c' :: A.eraseIdx i).Perm (A.set i c')
  | [], i, c, c', h => by cases h
  | a :: A, 0, c, c', h => List.Perm.refl _
  | a :: A, i + 1, c, c', h => by
    have := perm_set A i c c' (by simpa using h)
    exact (List.Perm.swap _ _ _).trans (this.cons a)

theorem Inv.take_at {F : List Chunk} {i : Nat} {c : Chunk} (hI : Inv I (A ++ F) w) (h : A[i]? = some c) : Inv I (c :: (A.eraseIdx i ++ F)) w := hI.perm ((perm_at A i c h).append_right F)
theorem Inv.put_at {F : List Chunk} {i : Nat} {c c' : Chunk} (h : A[i]? = some c) (hI : Inv I (c' :: (A.eraseIdx i ++ F)) w) : Inv I (A.set i c' ++ F) w := hI.perm ((perm_set A i c c' h).append_right F)

theorem opR_load_pt {o off i : Nat} {cs : List AV} {c : AV} {D : TypeDesc} {T2 : TypeId} (hT : P.underlying T = some D) (hD : aggDesc D = false) (hx : opv e x = .pt o off) (hA : A[i]? = some (.obj o cs)) (hc : cs[off]? = some c) :
    OpR P ⟨d, .load T x, T2, pos, after, g⟩ e A c A := fun F I w ρ hI hρ => by
  have h := hx ▸ hρ x
  generalize e1 : ρ x = v at h
  cases h with
  | pt o off b ho =>
    obtain ⟨b', arr, ho', he, hca, hrl⟩ := hI.holds _ (mem_app hA F)
    rw [ho] at ho'; cases ho'
    have hlt : off < cs.length := (List.getElem?_eq_some_iff.1 hc).1
    have hlt' : off < arr.length := by rw [hrl.1]; exact hlt
    have h0 : w.cell? ⟨b, off, none⟩ = some (arr.getD off undef) := by rw [hca.cell]; simp [List.getD, hlt']
    have hr := hrl.2 off hlt
    rw [(List.getElem?_eq_some_iff.1 hc).2] at hr
    refine ⟨_, _, w, I, ?_, .inl rfl, Ext.refl _ _, hI, hr⟩
    simp only [execOp, e1, Instr.loadAt, Instr.sureAddr, Sem.run_bind, Sem.run_pure, Result.andThen_ok, loadVar, run_isAgg hT hD, Bool.false_eq_true, if_false, run_load, h0]

theorem rel_oneCell {c : AV} {v : Value} (h : Rel I w c v) (hc : isCell c = true) : v.oneCell' = true := by
  cases h with
  | v => cases v <;> simp_all [isCell, Value.oneCell']
  | _ => first | rfl | (simp [isCell] at hc)

theorem opR_store_pt {o off i : Nat} {cs : List AV} {c : AV} {T2 : TypeId} (hsz : cellsAt P T = some 1) (hx : opv e x = .pt o off) (hy : opv e y = c) (hcell : isCell c = true) (hA : A[i]? = some (.obj o cs)) (hoff : off < cs.length) :
    OpR P ⟨d, .store T x y, T2, pos, after, g⟩ e A .any (A.set i (.obj o (cs.set off c))) := fun F I w ρ hI hρ => by
  have h := hx ▸ hρ x
  have hv := hy ▸ hρ y
  generalize e1 : ρ x = v at h
  cases h with
  | pt o off b ho =>
    have hI2 := hI.take_at hA
    obtain ⟨b', arr, ho', he, hca, hrl⟩ := hI.holds _ (mem_app hA F)
    rw [ho] at ho'; cases ho'
    have hlt' : off < arr.length := by rw [hrl.1]; exact hoff
    obtain ⟨E, hI3⟩ := hI2.set_obj ho off hv
    refine ⟨.skip, undef, _, I, ?_, .inr ⟨rfl, rfl⟩, E, Inv.put_at hA hI3, .any _⟩
    have h1c := rel_oneCell hv hcell
    have hcs : (ρ y).cells = #[ρ y] := by cases hq : ρ y <;> rw [hq] at h1c <;> first | rfl | cases h1c
    have h0 : w.cell? ⟨b, off, none⟩ = some (arr.getD off undef) := by rw [hca.cell]; simp [List.getD, hlt']
    have hst : (storeCells ⟨b, off, none⟩ [ρ y]).run P w = .ok () (w.setCell ⟨b, off, none⟩ (ρ y)) := by
      simp only [storeCells, Sem.run_bind, addr_add, Nat.add_zero, run_store P w _ _ _ h1c, h0, hca.free hlt', Bool.false_eq_true, if_false, Result.andThen_ok, Sem.run_pure]
    simp only [execOp, e1, Instr.storeAt, Instr.sureAddr, Sem.run_bind, Sem.run_pure, Result.andThen_ok, storeVar, hcs, run_sizeOf hsz]
    simp [hst]

/-- A new object that holds a value. -/
def cellsOf : AV → List AV
  | .agg cs => cs
  | a => [a]
theorem rel_cells {a : AV} {v : Value} (h : Rel I w a v) (hc : isCell a = true ∨ ∃ cs, a = .agg cs) : RelL I w (cellsOf a) v.cells.toList := by
  rcases hc with hc | ⟨cs, rfl⟩
  · have h1 := rel_oneCell h hc
    have h2 : v.cells = #[v] := by cases v <;> first | rfl | cases h1
    have h3 : cellsOf a = [a] := by cases a <;> first | rfl | (simp [isCell] at hc)
    rw [h2, h3]
    exact RelL.cons h RelL.nil
  · cases h with
    | agg cs xs hl hr => exact ⟨by simpa [Value.cells, cellsOf] using hl, by simpa [Value.cells, cellsOf] using hr⟩

theorem opX_box {a : AV} {T2 : TypeId} (hx : opv e x = a) (hc : isCell a = true ∨ ∃ cs, a = .agg cs) : OpX P ⟨d, .box T x, T2, pos, after, g⟩ e A (fun av A' => ∃ o, av = .pt o 0 ∧ A' = .obj o (cellsOf a) :: A) := fun F I w ρ hI hρ => by
  have hv := hx ▸ hρ x
  obtain ⟨o, ho⟩ := hI.fresh_obj
  have hrl := rel_cells hv hc
  refine ⟨_, .pointer (some ⟨w.heap.size, 0, none⟩), _, _, _, _, ?_, .inl rfl, hI.new_obj ho _, hI.alloc_obj ho T hrl, .pt o 0 _ (by simp [Info.putObj]), o, rfl, rfl⟩
  simp only [execOp, Instr.box, newVar, newRow, Sem.run_bind, Sem.run_pure, run_newObj_alloc, Result.andThen_ok]
end
end Go.Av
