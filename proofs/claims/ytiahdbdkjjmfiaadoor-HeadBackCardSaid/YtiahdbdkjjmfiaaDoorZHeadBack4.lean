/-
  Texts in one (only what HeadBack needs): AvOpen.
-/
import Derived.Test.YtiahdbdkjjmfiaaDoorZHeadBack3
import Derived.RowKit
import Derived.OpenShut
import Derived.ChangeSlices
import Derived.SliceStrings
set_option linter.unusedVariables false
set_option linter.unusedSimpArgs false
namespace Go.Av
open Go.RowKit Go.ChangeShapes Go.WideShapes
section
variable {H : Type} {enc : TypeId × Value → H} {P : Program} {w : World}
def Opens {H : Type} (enc : TypeId × Value → H) (P : Program) (w : World) (t : TypeId) {α : Type} (E : α → List AV) (p : α → Prop) : Prop :=
  ∀ fuel cs d, DataW.trod enc P w 0 (fun _ => true) true fuel t cs = some d → ∃ x, p x ∧ RelL (Info.start w) w (E x) cs
theorem opens_str {t : TypeId} (ht : P.underlying t = some .string) : Opens enc P w t (fun s : List UInt8 => [S s]) (fun s => s.length ≤ maxLen) := by
  intro fuel cs d h
  obtain ⟨s, rfl, _, hw⟩ := DataW.trod_string ht h
  refine ⟨s.data.toList, by simpa using hw, .cons (rel_string _ _ s) .nil⟩
def OpensF {H : Type} (enc : TypeId × Value → H) (P : Program) (w : World) (tot off : Nat) (fs : List Field) {α : Type} (E : α → List AV) (p : α → Prop) : Prop :=
  ∀ (n : Nat) (cs : List Value), cs.length = tot → (∀ f ∈ fs, ∃ d, DataW.trod enc P w 0 (fun _ => true) true n f.type ((cs.drop f.offset).take (P.cellsOf f.type)) = some d) → ∃ x, p x ∧ RelL (Info.start w) w (E x) (cs.drop off)
theorem opensF_nil {tot : Nat} : OpensF enc P w tot tot [] (fun _ : Unit => []) (fun _ => True) := fun n cs hl _ => ⟨(), trivial, by rw [List.drop_eq_nil_of_le (by omega)]; exact .nil⟩
theorem opensF_cons {tot off k : Nat} {f : Field} {fs : List Field} {α β : Type} {E : α → List AV} {p : α → Prop} {F : β → List AV} {q : β → Prop} (ho : f.offset = off) (hk : P.cellsOf f.type = k)
    (h : Opens enc P w f.type E p) (g : OpensF enc P w tot (off + k) fs F q) : OpensF enc P w tot off (f :: fs) (fun x : α × β => E x.1 ++ F x.2) (fun x => p x.1 ∧ q x.2) := by
  intro n cs hl H
  obtain ⟨d, hd⟩ := H f (by simp)
  obtain ⟨x, hx, rx⟩ := h _ _ _ hd
  obtain ⟨y, hy, ry⟩ := g n cs hl fun f' hf' => H f' (by simp [hf'])
  refine ⟨(x, y), ⟨hx, hy⟩, ?_⟩
  rw [ho, hk] at rx
  have := rx.append ry
  rwa [← List.drop_drop, List.take_append_drop] at this
theorem opens_struct {t : TypeId} {fs : Array Field} {tot : Nat} {α : Type} {E : α → List AV} {p : α → Prop} (ht : P.underlying t = some (.struct fs)) (hc : P.cellsOf t = tot) (h : OpensF enc P w tot 0 fs.toList E p) :
    Opens enc P w t E p := by
  intro fuel cs d hd
  obtain ⟨xs, n, _, _, hl, hlen, each⟩ := DataW.trod_struct ht hd
  obtain ⟨x, hx, rx⟩ := h n cs (by omega) fun f hf => by
    obtain ⟨i, hi, rfl⟩ := List.getElem_of_mem hf
    have hi' : i < fs.size := by simpa using hi
    rw [each i _ (by simp [hi'])]
    exact ⟨xs[i]'(by omega), List.getElem?_eq_getElem _⟩
  exact ⟨x, hx, by simpa using rx⟩
theorem open_agg {t : TypeId} {fs : Array Field} {r : Reach} {b0 : Nat} {v : Value} {d : DataW H} {ps : List MemPlace} {α : Type} {E : α → List AV} {p : α → Prop} (ht : P.underlying t = some (.struct fs))
    (hval : Value.okWide P w r b0 t v) (hd : DataW.Trod enc P w 0 (fun _ => true) true t v d ps) (h : Opens enc P w t E p) : ∃ x, p x ∧ Rel (Info.start w) w (.agg (E x)) v := by
  obtain ⟨cs, rfl, _⟩ := okWide_struct ht hval
  obtain ⟨fuel, hf⟩ := hd
  obtain ⟨x, hx, rx⟩ := h _ _ _ hf
  refine ⟨x, hx, ?_⟩
  have := Rel.agg _ _ rx.1 rx.2
  simpa [Value.cells] using this
end
end Go.Av
