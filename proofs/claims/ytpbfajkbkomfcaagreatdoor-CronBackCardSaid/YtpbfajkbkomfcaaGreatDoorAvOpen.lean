/-
  A parameter of any flat type (structs, arrays, texts, numbers, slices of numbers or texts), read as content.
-/
import Derived.Test.YtpbfajkbkomfcaaGreatDoorAvLaw
import Derived.RowKit
import Derived.OpenShut
import Derived.ChangeSlices
import Derived.SliceStrings
set_option linter.unusedVariables false
set_option linter.unusedSimpArgs false
namespace Go.Av
open Go.RowKit Go.ChangeShapes Go.WideShapes

section
variable {H : Type} {enc : TypeId × Value → H} {P : Program} {w : World}

/-- What lies at a type's cells is the content of one x of α, of which p holds. -/
def Opens {H : Type} (enc : TypeId × Value → H) (P : Program) (w : World) (t : TypeId) {α : Type} (E : α → List AV) (p : α → Prop) : Prop :=
  ∀ fuel cs d, DataW.trod enc P w 0 (fun _ => true) true fuel t cs = some d → ∃ x, p x ∧ RelL (Info.start w) w (E x) cs

theorem opens_int {t : TypeId} {k : IntKind} (ht : P.underlying t = some (.int k)) : Opens enc P w t (fun n : Int => [.v (.int k n)]) (fun n => (Lit.int k n).wf = true) := by
  intro fuel cs d h
  obtain ⟨n, rfl, _, hw⟩ := DataW.trod_int ht h
  exact ⟨n, hw, .cons (.v _) .nil⟩

theorem opens_bool {t : TypeId} (ht : P.underlying t = some .bool) : Opens enc P w t (fun b : Bool => [B b]) (fun _ => True) := by
  intro fuel cs d h
  obtain ⟨b, rfl, _⟩ := DataW.trod_bool ht h
  exact ⟨b, trivial, .cons (.v _) .nil⟩

theorem opens_str {t : TypeId} (ht : P.underlying t = some .string) : Opens enc P w t (fun s : List UInt8 => [S s]) (fun s => s.length ≤ maxLen) := by
  intro fuel cs d h
  obtain ⟨s, rfl, _, hw⟩ := DataW.trod_string ht h
  refine ⟨s.data.toList, by simpa using hw, .cons (rel_string _ _ s) .nil⟩

theorem opens_ints {t e : TypeId} (ht : P.underlying t = some (.slice e)) (he : P.underlying e = some (.int .i64)) (hc : P.cellsOf e = 1) :
    Opens enc P w t (fun l : List Int => [slE Enc.int l none]) (fun l => l.length ≤ maxLen ∧ ∀ n ∈ l, (Lit.int .i64 n).wf = true) := by
  intro fuel cs d h
  rcases open_ints ht he hc h with ⟨rfl, _⟩ | ⟨x, len, cap, zs, rfl, _, hl, hm, hz, _, hcell, hw⟩
  · exact ⟨[], ⟨by simp, by simp⟩, .cons (.slz _ _ _) .nil⟩
  · simp only [if_true] at hz
    have hll : (zs.take len).length = len := by simp; omega
    refine ⟨zs.take len, ⟨by rw [hll]; omega, fun n hn => hw n (List.mem_of_mem_take hn)⟩, .cons ?_ .nil⟩
    have := rel_row (w := w) Enc.int (fun n => .int .i64 n) (fun _ => rfl) (zs.take len) x cap (by omega) (fun i hi => by
      rw [hll] at hi
      rw [hcell i (by omega)]
      simp [List.getD, show i < zs.length by omega])
    rw [hll] at this
    exact this

theorem opens_bytes {t e : TypeId} (ht : P.underlying t = some (.slice e)) (he : P.underlying e = some (.int .u8)) (hc : P.cellsOf e = 1) :
    Opens enc P w t (fun l : List UInt8 => [slE Enc.byte l none]) (fun l => l.length ≤ maxLen) := by
  intro fuel cs d h
  rcases open_ints ht he hc h with ⟨rfl, _⟩ | ⟨x, len, cap, zs, rfl, _, hl, hm, hz, _, hcell, hw⟩
  · exact ⟨[], by simp, .cons (.slz _ _ _) .nil⟩
  · simp only [if_true] at hz
    obtain ⟨l, hl', hm', r⟩ := rel_bytes (w := w) (a := some x) (len := len) (cap := cap) (zs := zs) (.inr ⟨x, rfl, hl, hm, hz, hcell, hw⟩)
    exact ⟨l, by omega, .cons r .nil⟩

theorem opens_strs {t e : TypeId} (ht : P.underlying t = some (.slice e)) (he : P.underlying e = some .string) (hc : P.cellsOf e = 1) :
    Opens enc P w t (fun l : List (List UInt8) => [slE Enc.str l none]) (fun l => l.length ≤ maxLen ∧ ∀ s ∈ l, s.length ≤ maxLen) := by
  intro fuel cs d h
  rcases open_strings ht he hc h with ⟨rfl, _⟩ | ⟨x, len, cap, zs, rfl, _, hl, hm, hz, _, hcell, hw⟩
  · exact ⟨[], ⟨by simp, by simp⟩, .cons (.slz _ _ _) .nil⟩
  · simp only [if_true] at hz
    have hll : ((zs.take len).map fun s => s.data.toList).length = len := by simp; omega
    refine ⟨(zs.take len).map fun s => s.data.toList, ⟨by rw [hll]; omega, fun n hn => ?_⟩, .cons ?_ .nil⟩
    · obtain ⟨s, hs, rfl⟩ := List.mem_map.1 hn
      simpa using hw s (List.mem_of_mem_take hs)
    have := rel_row (w := w) Enc.str (fun s => .string ⟨s.toArray⟩) (fun _ => rfl) ((zs.take len).map fun s => s.data.toList) x cap (by omega) (fun i hi => by
      rw [hll] at hi
      rw [hcell i (by omega)]
      simp [List.getD, show i < zs.length by omega])
    rw [hll] at this
    exact this

/-- The fields of a struct, from one on. -/
def OpensF {H : Type} (enc : TypeId × Value → H) (P : Program) (w : World) (tot off : Nat) (fs : List Field) {α : Type} (E : α → List AV) (p : α → Prop) : Prop :=
  ∀ (n : Nat) (cs : List Value), cs.length = tot → (∀ f ∈ fs, ∃ d, DataW.trod enc P w 0 (fun _ => true) true n f.type ((cs.drop f.offset).take (P.cellsOf f.type)) = some d) → ∃ x, p x ∧ RelL (Info.start w) w (E x) (cs.drop off)

theorem opensF_nil {tot : Nat} : OpensF enc P w tot tot [] (fun _ : Unit => []) (fun _ => True) := fun n cs hl _ => ⟨(), trivial, by rw [List.drop_eq_nil_of_le (by omega)]; exact .nil⟩

theorem opensF_cons {tot off k : Nat} {f : Field} {fs : List Field} {α β : Type} {E : α → List AV} {p : α → Prop} {F : β → List AV} {q : β → Prop} (ho : f.offset = off) (hk : P.cellsOf f.type = k)
    (h : Opens enc P w f.type E p) (g : OpensF enc P w tot (off + k) fs F q) : OpensF enc P w tot off (f :: fs) (fun x : α × β => E x.1 ++ F x.2) (fun x => p x.1 ∧ q x.2) := by
  intro n cs hl H
  obtain ⟨d, hd⟩ := H f (by simp)
  obtain ⟨x, hx, rx⟩ := h _ _ _ hd
  obtain ⟨y, hy, ry⟩ := g n cs hl fun f' hf' => H f' (by simp [hf'])
  refine ⟨(x, y), ⟨hx, hy⟩, ?_⟩
  rw [ho, hk] at rx
  have := rx.append ry
  rwa [← List.drop_drop, List.take_append_drop] at this

theorem opens_struct {t : TypeId} {fs : Array Field} {tot : Nat} {α : Type} {E : α → List AV} {p : α → Prop} (ht : P.underlying t = some (.struct fs)) (hc : P.cellsOf t = tot) (h : OpensF enc P w tot 0 fs.toList E p) :
    Opens enc P w t E p := by
  intro fuel cs d hd
  obtain ⟨xs, n, _, _, hl, hlen, each⟩ := DataW.trod_struct ht hd
  obtain ⟨x, hx, rx⟩ := h n cs (by omega) fun f hf => by
    obtain ⟨i, hi, rfl⟩ := List.getElem_of_mem hf
    have hi' : i < fs.size := by simpa using hi
    rw [each i _ (by simp [hi'])]
    exact ⟨xs[i]'(by omega), List.getElem?_eq_getElem _⟩
  exact ⟨x, hx, by simpa using rx⟩

theorem opens_array {t e : TypeId} {m c : Nat} {α : Type} {E : α → List AV} {p : α → Prop} (ht : P.underlying t = some (.array m e)) (hc : P.cellsOf e = c) (ht' : P.cellsOf t = m * c) (h : Opens enc P w e E p) :
    Opens enc P w t (fun l : List α => l.flatMap E) (fun l => l.length = m ∧ ∀ x ∈ l, p x) := by
  intro fuel cs d hd
  obtain ⟨xs, n, _, _, hl, hlen, each⟩ := DataW.trod_array ht hd
  have go : ∀ r i, i + r = m → ∃ l : List α, (l.length = r ∧ ∀ x ∈ l, p x) ∧ RelL (Info.start w) w (l.flatMap E) (cs.drop (i * c)) := by
    intro r
    induction r with
    | zero => intro i hi; exact ⟨[], ⟨rfl, by simp⟩, by rw [List.drop_eq_nil_of_le (by rw [hl, ht', show i = m by omega]; exact Nat.le_refl _)]; exact .nil⟩
    | succ r ih =>
      intro i hi
      have hd := each i (by omega)
      rw [List.getElem?_eq_getElem (by omega), hc] at hd
      obtain ⟨x, hx, rx⟩ := h _ _ _ hd
      obtain ⟨l, ⟨hl1, hl2⟩, rl⟩ := ih (i + 1) (by omega)
      refine ⟨x :: l, ⟨by simp [hl1], by simpa using ⟨hx, hl2⟩⟩, ?_⟩
      have := rx.append rl
      rw [Nat.succ_mul, ← List.drop_drop, List.take_append_drop] at this
      simpa using this
  obtain ⟨l, hl', rl⟩ := go m 0 (by omega)
  exact ⟨l, hl', by simpa using rl⟩

/-- A struct that came in. -/
theorem open_agg {t : TypeId} {fs : Array Field} {r : Reach} {b0 : Nat} {v : Value} {d : DataW H} {ps : List MemPlace} {α : Type} {E : α → List AV} {p : α → Prop} (ht : P.underlying t = some (.struct fs))
    (hval : Value.okWide P w r b0 t v) (hd : DataW.Trod enc P w 0 (fun _ => true) true t v d ps) (h : Opens enc P w t E p) : ∃ x, p x ∧ Rel (Info.start w) w (.agg (E x)) v := by
  obtain ⟨cs, rfl, _⟩ := okWide_struct ht hval
  obtain ⟨fuel, hf⟩ := hd
  obtain ⟨x, hx, rx⟩ := h _ _ _ hf
  refine ⟨x, hx, ?_⟩
  have := Rel.agg _ _ rx.1 rx.2
  simpa [Value.cells] using this

theorem one_of {t : TypeId} {v : Value} {d : DataW H} {ps : List MemPlace} {α : Type} {E : α → AV} {p : α → Prop} (hv : v.cells = #[v]) (hd : DataW.Trod enc P w 0 (fun _ => true) true t v d ps) (h : Opens enc P w t (fun x => [E x]) p) :
    ∃ x, p x ∧ Rel (Info.start w) w (E x) v := by
  obtain ⟨fuel, hf⟩ := hd
  obtain ⟨x, hx, rx⟩ := h _ _ _ hf
  rw [hv] at rx
  exact ⟨x, hx, rx.head⟩

theorem len_cons {α : Type} {l : List α} {n : Nat} (h : l.length = n + 1) : ∃ a l', l = a :: l' ∧ l'.length = n := by
  cases l with
  | nil => simp at h
  | cons a l => exact ⟨a, l, rfl, by simpa using h⟩
theorem len_nil {α : Type} {l : List α} (h : l.length = 0) : l = [] := List.eq_nil_of_length_eq_zero h
end
end Go.Av
