/-
  Contracts of the library's shelf, by content. No program is spoken of.
-/
import Derived.Test.YtjhlnhipjomdeaaGreatDoorAvMisc
import Derived.Below
import Derived.Lib.AtoiErrMem
set_option linter.unusedVariables false
set_option linter.unusedSimpArgs false
namespace Go.Av
open Go.RowKit

section
variable {P : Program} {f : FuncId} {avs : List AV}

theorem Ext.below {I : Info} {A : List Chunk} {w w' : World} (hI : Inv I A w) (b : Below w.heap.size w w') (he : ∀ c E, ElemAt w c E → c < w.heap.size) : Ext I w I w' := by
  refine ⟨b.os, b.tape, b.output, b.size, fun c hc => ⟨?_, hc⟩, fun c j hj => ?_, fun _ _ h => h, fun _ _ h => h, fun _ _ h => h, fun c E hE => ?_⟩
  · have : c < w.heap.size := Nat.lt_of_not_le fun h => by rw [hI.fresh c h] at hc; cases hc
    exact b.block c this
  · have : c < w.heap.size := Nat.lt_of_not_le fun h => by have := hj 0 (hI.fresh c h); omega
    simp only [World.cell?, b.block c this]
  · obtain ⟨d, fz, h⟩ := hE
    exact ⟨d, fz, (b.block c (Array.getElem?_eq_some_iff.1 h).1).trans h⟩
theorem Inv.below {I : Info} {A : List Chunk} {w w' : World} (hI : Inv I A w) (b : Below w.heap.size w w') : Ext I w I w' ∧ Inv I A w' := by
  have X := Ext.below hI b fun c E ⟨d, fz, h⟩ => (Array.getElem?_eq_some_iff.1 h).1
  exact ⟨X, hI.keep X (fun c hc k hk => ⟨b.block k ((hI.holds c hc).blk_lt hk), rfl⟩) (fun k hk => hI.fresh k (Nat.le_trans b.size hk)) hI.ids⟩

/-- A contract that answers a known value and leaves all that was there. -/
theorem ACalls.of_below {v : Value} (h : ∀ I A w vs, Inv I A w → RelL I w avs vs → Calls P f vs.toArray w fun e w' => e = .returned v ∧ Below w.heap.size w w') : ACalls P f avs [] (Ret (.v v) []) := fun F I w vs hI hv =>
  (h I F w vs hI hv).mono fun e w' ⟨he, hb⟩ => by
    subst he
    obtain ⟨X, hI'⟩ := Inv.below hI hb
    exact ⟨I, .ret (.v v), [], X, hI', .v _, rfl, rfl⟩

/-- One that answers several. -/
theorem ACalls.of_below_tup {rs : List Value} {v : Value} (hv0 : v = .tuple rs.toArray) (h : ∀ I A w vs, Inv I A w → RelL I w avs vs → Calls P f vs.toArray w fun e w' => e = .returned v ∧ Below w.heap.size w w') : ACalls P f avs [] (Ret (.tup (rs.map AV.v)) []) := fun F I w vs hI hv =>
  (h I F w vs hI hv).mono fun e w' ⟨he, hb⟩ => by
    subst he
    obtain ⟨X, hI'⟩ := Inv.below hI hb
    refine ⟨I, .ret (.tup (rs.map AV.v)), [], X, hI', ?_, rfl, rfl⟩
    subst hv0
    have := relL_vals (I := I) (w := w') rs
    exact .tup _ _ this.1 this.2

theorem glob_anyk {I : Info} {A : List Chunk} {w : World} (hI : Inv I A w) {g : Nat} {k : IntKind} {r : List AV} (hg : G g = some (.anyk k :: r)) : ∃ m : Int, w.cell? ⟨g, 0, none⟩ = some (.int k m) := by
  have h := hI.glob g _ hg
  generalize hp : Value.pointer (some ⟨g, 0, none⟩) = p at h
  cases h with
  | cp cs b off xs hst hx hr =>
    cases hp
    have h0 := hx 0 (by simp)
    have h1 := hr 0 (by simp)
    simp only [List.getElem_cons_zero] at h1
    generalize xs 0 = u at h0 h1
    cases h1 with
    | anyk k n => exact ⟨n, h0⟩

theorem rel_S {I : Info} {w : World} {s : List UInt8} {v : Value} (h : Rel I w (S s) v) : v = .string ⟨s.toArray⟩ := rel_v h
theorem Below.drewN (w : World) : ∀ n, Below w.heap.size w (w.drewN n) := fun n => by
  have : ∀ n, (w.drewN n).heap = w.heap ∧ (w.drewN n).os = w.os ∧ (w.drewN n).tape = w.tape ∧ (w.drewN n).output = w.output := fun n => ⟨rfl, rfl, rfl, rfl⟩
  obtain ⟨h1, h2, h3, h4⟩ := this n
  exact ⟨h2, h3, h4, by rw [h1]; exact Nat.le_refl _, fun k _ => by rw [h1]⟩

/-- One that answers something that reads so. -/
theorem ACalls.of_belowR {av : AV} (h : ∀ I A w vs, Inv I A w → RelL I w avs vs → Calls P f vs.toArray w fun e w' => ∃ v, e = .returned v ∧ (∀ I w, Rel I w av v) ∧ Below w.heap.size w w') : ACalls P f avs [] (Ret av []) := fun F I w vs hI hv =>
  (h I F w vs hI hv).mono fun e w' ⟨v, he, hr, hb⟩ => by
    subst he
    obtain ⟨X, hI'⟩ := Inv.below hI hb
    exact ⟨I, .ret av, [], X, hI', hr _ _, rfl, rfl⟩
theorem ACalls.of_belowT {avs' : List AV} (h : ∀ I A w vs, Inv I A w → RelL I w avs vs → Calls P f vs.toArray w fun e w' => ∃ xs : List Value, e = .returned (.tuple xs.toArray) ∧ (∀ I w, RelL I w avs' xs) ∧ Below w.heap.size w w') : ACalls P f avs [] (Ret (.tup avs') []) :=
  ACalls.of_belowR fun I A w vs hI hv => (h I A w vs hI hv).mono fun e w' ⟨xs, he, hr, hb⟩ => ⟨_, he, fun I w => .tup _ _ (hr I w).1 (hr I w).2, hb⟩
theorem glob_anyi {I : Info} {A : List Chunk} {w : World} (hI : Inv I A w) {g : Nat} {r : List AV} (hg : G g = some (.anyi :: r)) : ∃ v, w.cell? ⟨g, 0, none⟩ = some v ∧ (v = .nilIface ∨ ∃ t p, v = .iface t p) := by
  have h := hI.glob g _ hg
  generalize hp : Value.pointer (some ⟨g, 0, none⟩) = p at h
  cases h with
  | cp cs b off xs hst hx hr =>
    cases hp
    have h0 := hx 0 (by simp)
    have h1 := hr 0 (by simp)
    simp only [List.getElem_cons_zero] at h1
    generalize xs 0 = u at h0 h1
    cases h1 with
    | anyi0 => exact ⟨_, h0, .inl rfl⟩
    | anyi1 t v => exact ⟨_, h0, .inr ⟨t, v, rfl⟩⟩
end
end Go.Av
