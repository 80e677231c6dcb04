/-
  From content back to a row: what comes in, read as content; what a law's contract says of its call. No program is spoken of.
-/
import Derived.Test.YtjhlnhipjomdeaaGreatDoorAvMost
import Derived.Below
set_option linter.unusedVariables false
set_option linter.unusedSimpArgs false
namespace Go.Av
open Go.RowKit

/-- When a call begins all that is there stands still. -/
def Info.start (w : World) : Info := ⟨fun b => if b < w.heap.size then none else some 0, fun _ => none, fun _ => none⟩

theorem Inv.start (w : World) (hg : ∀ g cs, G g = some cs → Rel (Info.start w) w (.cp cs) (.pointer (some ⟨g, 0, none⟩))) : Inv (Info.start w) [] w where
  holds := fun c h => by cases h
  nodup := by simp
  fresh := fun b h => by simp only [Info.start]; rw [if_neg (by omega)]
  ids := ⟨0, fun _ _ => ⟨rfl, rfl⟩⟩
  glob := hg

theorem stab_start {w : World} {b n : Nat} (h : b < w.heap.size) : Stab (Info.start w) b n := fun m hm => by
  simp only [Info.start] at hm
  rw [if_pos h] at hm; cases hm

/-- A law's contract, and what its row asks. -/
theorem law_of {P : Program} {f : FuncId} {args : List AV} {vs : List Value} {w : World} (h : ACalls P f args [] (Ret (B true) [])) (hr : RelL (Info.start w) w args vs)
    (hg : ∀ g cs, G g = some cs → Rel (Info.start w) w (.cp cs) (.pointer (some ⟨g, 0, none⟩))) :
    Calls P f vs.toArray w fun e w' => e = .returned (.bool true) ∧ Below w.heap.size w w' :=
  (h [] (Info.start w) w vs (Inv.start w hg) hr).mono fun e w' ⟨I', ae, A', E, _, he, h1, _⟩ => by
    subst h1
    refine ⟨?_, E.os, E.tape, E.out, E.size, fun k hk => (E.blk k (by simp only [Info.start]; rw [if_pos hk])).1⟩
    cases e with
    | returned v => cases he; rfl
    | panicked c => exact he.elim
    | outgrown => exact he.elim

theorem cell_lt {w : World} {a : Addr} {v : Value} (h : w.cell? a = some v) : a.block < w.heap.size ∧ a.spot = none := by
  unfold World.cell? at h
  split at h
  · rename_i c _ _ hb
    have hlt := (Array.getElem?_eq_some_iff.1 hb).1
    split at h
    · cases h
    · rename_i hs
      cases hsp : a.spot with
      | none => exact ⟨hlt, rfl⟩
      | some k => rw [hsp] at hs; exact absurd rfl hs
  · cases h

/-- A row of elements of one cell each. -/
theorem rel_row {α : Type} {w : World} (E : Enc α) (g : α → Value) (hE : ∀ x, E.f x = [.v (g x)]) (l : List α) (x : Addr) (cap : Nat) (hcap : l.length ≤ cap)
    (hc : ∀ i (h : i < l.length), w.cell? (x.add i) = some (g l[i])) : Rel (Info.start w) w (slE E l none) (.slice (some x) l.length cap) := by
  by_cases hl : l = []
  · subst hl; exact .slz _ _ _
  · have h0 : 0 < l.length := List.length_pos_iff.2 hl
    have hk : E.k = 1 := by rw [← E.len l[0], hE]; rfl
    have hf : E.fl l = l.map fun x => .v (g x) := by
      clear hl h0 hcap hc
      induction l with
      | nil => rfl
      | cons y l ih => rw [E.fl_cons, hE, ih]; rfl
    have hx0 := hc 0 h0
    obtain ⟨hb, hs⟩ := cell_lt hx0
    have hx : x = ⟨x.block, x.off, none⟩ := by
      have : x.add 0 = x := rfl
      rw [this] at hs
      cases x; simp at hs; subst hs; rfl
    have hb' : x.block < w.heap.size := hb
    rw [hx]
    have hadd : ∀ i, i < l.length → w.cell? ⟨x.block, x.off + i, none⟩ = w.cell? (x.add i) := fun i hi => by
      unfold Addr.add
      by_cases h : i = 0
      · rw [if_pos h]; subst h; rw [Nat.add_zero, ← hx]
      · rw [if_neg h]
    unfold slE
    refine .sl E.k (E.fl l) none x.block x.off l.length cap (fun j => if h : j < l.length then g l[j] else undef) (by omega) (by rw [E.fl_length]) hcap (stab_start hb') ?_ ?_ (fun _ h => by cases h)
    · intro j hj
      rw [E.fl_length, hk, Nat.mul_one] at hj
      simp only [hj, dif_pos]
      rw [hadd j hj, hc j hj]
    · intro j hj
      have hj' : j < l.length := by rw [E.fl_length, hk, Nat.mul_one] at hj; exact hj
      simp only [hj', dif_pos, hf, List.getElem_map]
      exact .v _

/-- Bytes that came in. -/
theorem rel_bytes {w : World} {a : Option Addr} {len cap : Nat} {zs : List Int}
    (h : (a = none ∧ len = 0 ∧ cap = 0 ∧ zs = []) ∨ ∃ x, a = some x ∧ len ≤ cap ∧ cap ≤ maxLen ∧ zs.length = cap ∧ (∀ i, i < zs.length → w.cell? (x.add i) = some (.int .u8 (zs.getD i 0))) ∧ ∀ n ∈ zs, (Lit.int .u8 n).wf = true) :
    ∃ l : List UInt8, l.length = len ∧ len ≤ maxLen ∧ Rel (Info.start w) w (slE Enc.byte l none) (.slice a len cap) := by
  rcases h with ⟨rfl, rfl, rfl, rfl⟩ | ⟨x, rfl, hl, hm, hz, hc, hw⟩
  · exact ⟨[], rfl, Nat.zero_le _, .slz _ _ _⟩
  · refine ⟨(zs.take len).map fun n => UInt8.ofNat n.toNat, by simp; omega, by omega, ?_⟩
    have hll : ((zs.take len).map fun n => UInt8.ofNat n.toNat).length = len := by simp; omega
    have := rel_row (w := w) Enc.byte (fun c => .int .u8 c.toNat) (fun _ => rfl) ((zs.take len).map fun n => UInt8.ofNat n.toNat) x cap (by omega) (fun i hi => by
      rw [hll] at hi
      rw [hc i (by omega)]
      have hiz : i < zs.length := by omega
      have hn := hw zs[i] (List.getElem_mem hiz)
      have hn2 : 0 ≤ zs[i] ∧ zs[i] ≤ 255 := by simpa [Lit.wf, IntKind.min, IntKind.max, IntKind.signed, IntKind.bits] using hn
      simp only [List.getElem_map, List.getElem_take]
      have e : ((UInt8.ofNat zs[i].toNat).toNat : Int) = zs[i] := by simp; omega
      rw [e]
      simp [List.getD, hiz])
    rw [hll] at this
    exact this

theorem rel_string (I : Info) (w : World) (s : ByteArray) : Rel I w (S s.data.toList) (.string s) := by
  have : (⟨s.data.toList.toArray⟩ : ByteArray) = s := by cases s; simp
  show Rel I w (.v (.string ⟨s.data.toList.toArray⟩)) _
  rw [this]; exact .v _
end Go.Av
