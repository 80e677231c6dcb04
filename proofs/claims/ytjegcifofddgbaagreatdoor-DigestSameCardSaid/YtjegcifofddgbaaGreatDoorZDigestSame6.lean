/-
  Texts in one (only what DigestSame needs): AvOpen.
-/
import Derived.Test.YtjegcifofddgbaaGreatDoorZDigestSame5
import Derived.RowKit
import Derived.OpenShut
import Derived.ChangeSlices
import Derived.SliceStrings
set_option linter.unusedVariables false
set_option linter.unusedSimpArgs false
namespace Go.Av
open Go.RowKit Go.ChangeShapes Go.WideShapes
section
variable {H : Type} {enc : TypeId × Value → H} {P : Program} {w : World}
def ri {H : Type} (enc : TypeId × Value → H) (P : Program) (w : World) (t : TypeId) {α : Type} (E : α → List AV) (p : α → Prop) : Prop :=
  ∀ fuel cs d, DataW.trod enc P w 0 (fun _ => true) true fuel t cs = some d → ∃ x, p x ∧ RelL (Info.start w) w (E x) cs
theorem opens_int {t : TypeId} {k : IntKind} (ht : P.underlying t = some (.int k)) : ri enc P w t (fun n : Int => [.v (.int k n)]) (fun n => (Lit.int k n).wf = true) := by
  intro fuel cs d h;obtain ⟨n, rfl, _, hw⟩ := DataW.trod_int ht h;exact ⟨n, hw, .cons (.v _) .nil⟩
theorem opens_str {t : TypeId} (ht : P.underlying t = some .string) : ri enc P w t (fun s : List UInt8 => [S s]) (fun s => s.length ≤ maxLen) := by
  intro fuel cs d h;obtain ⟨s, rfl, _, hw⟩ := DataW.trod_string ht h;refine ⟨s.data.toList, by simpa using hw, .cons (qy _ _ s) .nil⟩
theorem add_add (a : Addr) (m r : Nat) : (a.add m).add r = a.add (m + r) := by
  unfold Addr.add
  by_cases hm : m = 0
  · subst hm; simp
  · by_cases hr : r = 0
    · subst hr; simp
    · simp [hm, hr, Nat.add_assoc]
theorem opens_slice {t e : TypeId} {α β : Type} {E : α → List AV} {p : α → Prop} (G : Enc β) (g : α → β) (ht : P.underlying t = some (.slice e)) (hc : P.cellsOf e = G.k)
    (h : ri enc P w e E p) (hg : ∀ x, E x = G.f (g x)) : ri enc P w t (fun l : List β => [slE G l none]) (fun l => l.length ≤ maxLen ∧ ∀ y ∈ l, ∃ x, g x = y ∧ p x) := by
  intro fuel cs d hd
  rcases DataW.trod_slice ht hd with ⟨rfl, _⟩ | ⟨a, len, cap, elems, rest, n, _, rfl, _, _, hl, hm, hlen, hel, _, _⟩
  · exact ⟨[], ⟨by simp, by simp⟩, .cons (.slz _ _ _) .nil⟩
  · have go : ∀ r i, i + r = len → ∃ (l : List β) (vs : List Value), (l.length = r ∧ ∀ y ∈ l, ∃ x, g x = y ∧ p x) ∧ RelL (Info.start w) w (G.fl l) vs ∧ ∀ j, j < vs.length → w.cell? (a.add (i * G.k + j)) = vs[j]? := by
      intro r
      induction r with
      | zero => intro i hi; exact ⟨[], [], ⟨rfl, by simp⟩, .nil, fun j hj => by simp at hj⟩
      | succ r ih =>
        intro i hi
        have hb := hel i (by omega)
        rw [aK (by omega), Option.bind_eq_some_iff] at hb
        obtain ⟨cs', hcs, hy⟩ := hb
        rw [hc] at hcs
        obtain ⟨_, hcl, hce⟩ := World.cells?_some hcs;obtain ⟨x, hx, rx⟩ := h _ _ _ hy
        rw [hg] at rx
        obtain ⟨l, vs, ⟨l1, l2⟩, rl, hv⟩ := ih (i + 1) (by omega);refine ⟨g x :: l, cs' ++ vs, ⟨by simp [l1], fun y hy => ?_⟩, by rw [G.fl_cons]; exact rx.append rl, fun j hj => ?_⟩
        · rcases List.mem_cons.1 hy with rfl | hy
          · exact ⟨x, rfl, hx⟩
          · exact l2 y hy
        · by_cases hjk : j < G.k
          · have := hce j hjk
            rw [add_add] at this
            rw [this, List.getElem?_append_left (by omega)]
          · have := hv (j - G.k) (by simp at hj; omega)
            rw [List.getElem?_append_right (by omega), hcl, ← this, Nat.succ_mul]
            congr 2; omega
    obtain ⟨l, vs, ⟨l1, l2⟩, rl, hv⟩ := go len 0 (by omega);refine ⟨l, ⟨by omega, l2⟩, .cons ?_ .nil⟩
    by_cases h0 : l = []
    · subst h0
      simp at l1
      subst l1;exact .slz _ _ _
    · have hlp := List.length_pos_iff.2 h0
      have hvl : vs.length = len * G.k := by rw [rl.1, G.fl_length, l1]
      have hpos := G.pos
      have hv0 : 0 < vs.length := by rw [hvl]; exact Nat.mul_pos (by omega) hpos
      have hx0 := hv 0 hv0
      rw [aK hv0, Nat.zero_mul] at hx0
      obtain ⟨hb, hs⟩ := wS hx0
      have hx : a = ⟨a.block, a.off, none⟩ := by
        have : a.add (0 + 0) = a := rfl
        rw [this] at hs
        cases a; simp at hs; subst hs; rfl
      have hb' : a.block < w.heap.size := hb
      rw [hx]
      have hadd : ∀ i, w.cell? ⟨a.block, a.off + i, none⟩ = w.cell? (a.add i) := fun i => by
        unfold Addr.add
        by_cases h : i = 0
        · rw [if_pos h]; subst h; rw [Nat.add_zero, ← hx]
        · rw [if_neg h]
      unfold slE
      have hfl : (G.fl l).length = vs.length := rl.1.symm
      refine .sl G.k (G.fl l) none a.block a.off len cap (fun j => vs.getD j undef) G.pos (by rw [hfl, hvl]) hl (qx hb') ?_ ?_ (fun _ h => by cases h)
      · intro j hj
        have := hv j (by omega)
        rw [Nat.zero_mul, Nat.zero_add] at this
        rw [hadd j, this, aK (by omega)]
        simp [List.getD, show j < vs.length by omega]
      · intro j hj
        have := rl.2 j hj
        simpa [List.getD, show j < vs.length by omega] using this
def tB {H : Type} (enc : TypeId × Value → H) (P : Program) (w : World) (tot off : Nat) (fs : List Field) {α : Type} (E : α → List AV) (p : α → Prop) : Prop :=
  ∀ (n : Nat) (cs : List Value), cs.length = tot → (∀ f ∈ fs, ∃ d, DataW.trod enc P w 0 (fun _ => true) true n f.type ((cs.drop f.offset).take (P.cellsOf f.type)) = some d) → ∃ x, p x ∧ RelL (Info.start w) w (E x) (cs.drop off)
theorem opensF_nil {tot : Nat} : tB enc P w tot tot [] (fun _ : Unit => []) (fun _ => True) := fun n cs hl _ => ⟨(), trivial, by rw [bn (by omega)]; exact .nil⟩
theorem opensF_cons {tot off k : Nat} {f : Field} {fs : List Field} {α β : Type} {E : α → List AV} {p : α → Prop} {F : β → List AV} {q : β → Prop} (ho : f.offset = off) (hk : P.cellsOf f.type = k)
    (h : ri enc P w f.type E p) (g : tB enc P w tot (off + k) fs F q) : tB enc P w tot off (f :: fs) (fun x : α × β => E x.1 ++ F x.2) (fun x => p x.1 ∧ q x.2) := by
  intro n cs hl H;obtain ⟨d, hd⟩ := H f (by simp);obtain ⟨x, hx, rx⟩ := h _ _ _ hd
  obtain ⟨y, hy, ry⟩ := g n cs hl fun f' hf' => H f' (by simp [hf'])
  refine ⟨(x, y), ⟨hx, hy⟩, ?_⟩
  rw [ho, hk] at rx
  have := rx.append ry
  rwa [← List.drop_drop, List.take_append_drop] at this
theorem opens_struct {t : TypeId} {fs : Array Field} {tot : Nat} {α : Type} {E : α → List AV} {p : α → Prop} (ht : P.underlying t = some (.struct fs)) (hc : P.cellsOf t = tot) (h : tB enc P w tot 0 fs.toList E p) :
    ri enc P w t E p := by
  intro fuel cs d hd;obtain ⟨xs, n, _, _, hl, hlen, each⟩ := DataW.trod_struct ht hd
  obtain ⟨x, hx, rx⟩ := h n cs (by omega) fun f hf => by
    obtain ⟨i, hi, rfl⟩ := List.getElem_of_mem hf
    have hi' : i < fs.size := by simpa using hi
    rw [each i _ (by simp [hi'])]
    exact ⟨xs[i]'(by omega), aK _⟩
  exact ⟨x, hx, by simpa using rx⟩
theorem one_of {t : TypeId} {v : Value} {d : DataW H} {ps : List MemPlace} {α : Type} {E : α → AV} {p : α → Prop} (hv : v.cells = #[v]) (hd : DataW.Trod enc P w 0 (fun _ => true) true t v d ps) (h : ri enc P w t (fun x => [E x]) p) :
    ∃ x, p x ∧ Rel (Info.start w) w (E x) v := by
  obtain ⟨fuel, hf⟩ := hd;obtain ⟨x, hx, rx⟩ := h _ _ _ hf
  rw [hv] at rx
  exact ⟨x, hx, rx.head⟩
end
end Go.Av
