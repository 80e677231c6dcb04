/-
  More rules, for operations that other programs have. No program is spoken of.
-/
import Derived.Test.YtjhlnhipjomdeaaGreatDoorAvMore
set_option linter.unusedVariables false
set_option linter.unusedSimpArgs false
namespace Go.Av
open Go.RowKit

section
variable {P : Program} {e : Env} {d : Option Nat} {T : TypeId} {pos : String} {after : Array Edge} {g : Option (Nat × Bool)} {x y : Operand}
/-- A byte as a number. -/
theorem opS_conv_u8 {c : UInt8} {src dst : TypeId} (hs : (P.underlying src).isSome = true) (hd : P.underlying dst = some (.int .i64)) (hx : opv e x = u8 c) :
    OpS P ⟨d, .convert src dst x, T, pos, after, g⟩ e (i64 c.toNat) := by
  have := opS_conv_int (P := P) (d := d) (T := T) (pos := pos) (after := after) (g := g) hs hd hx
  rw [IntWalk.i64_in _ (by have := c.toNat_lt; omega)] at this
  exact this
end

/-! ### Guards in regions that leave their order open -/
section
variable {P : Program} {N : Nat} {Q : Post} {ops : Array Oper}
theorem yielded_v {j t : Nat} {v : Value} {e : Env} {ds : List ADef} {A : List Chunk} {I : Info} {w : World} {a : Act} (hS : RelS N I w ⟨e, ds, A⟩ a) (hj : (ops[j]?).bind (·.dst) = some t) (hb : ev e t = .v v) (ht : Nat.blt t N = true) :
    yielded ops a.tmps j = (match v with | .bool b => some b | _ => none) := by
  have htlt : t < N := Nat.le_of_ble_eq_true ht
  have hv : a.tmps[t]? = some v := by
    have h := hS.env t
    simp only [hb] at h
    have hs := hS.size
    have hlt : t < a.tmps.size := by omega
    rw [Array.getD_eq_getD_getElem?, Array.getElem?_eq_getElem hlt, Option.getD_some] at h
    rw [Array.getElem?_eq_getElem hlt]
    generalize a.tmps[t] = x at h
    cases h; rfl
  simp only [yielded, hj, Option.bind_some, hv]
  cases v <;> rfl

theorem AI.gsplit {b : Bool} {t fuel : Nat} {listed : Array Bool} {s : St} (hb : ev s.env t = .v (.bool b)) (h1 : b = true → AI P N ops Q fuel listed s) (h2 : b = false → AI P N ops Q fuel listed s) : AI P N ops Q fuel listed s := by
  cases b
  · exact h2 rfl
  · exact h1 rfl

/-- A guarded operation that yields the same whatever comes first is taken first. -/
theorem AI.gtake {i d j t : Nat} {want b : Bool} {fuel : Nat} {listed : Array Bool} {op : Op} {T : TypeId} {pos : String} {after : Array Edge} {e : Env} {ds : List ADef} {A : List Chunk} {av : AV}
    (hi : ops[i]? = some ⟨some d, op, T, pos, after, some (j, want)⟩) (hd : Nat.blt d N = true) (hs : Region.noSelect ops = true) (hf : Region.free .any ops listed i = true) (hr : (Region.ready .any ops listed).contains i = true)
    (hj : (ops[j]?).bind (·.dst) = some t) (hb : ev e t = .v (.bool b)) (ht : Nat.blt t N = true) (hQ : NoPanic d Q)
    (hbw : b = want) (h : OpS P ⟨some d, op, T, pos, after, some (j, want)⟩ e av) (k : AI P N ops Q fuel (listed.setIfInBounds i true) ⟨(d, av) :: e, ds, A⟩) : AI P N ops Q (fuel + 1) listed ⟨e, ds, A⟩ := fun F I0 w0 I w a E hI hS => by
  have hy := yielded_v (ops := ops) hS hj hb ht
  obtain ⟨v, hv, hrun⟩ := h I w a.eval hS.op
  refine wpAnyI_first hi (Region.noSelect_spec hs) (fun c a w h => ?_) fuel listed a w I (Region.free_spec hi hf) (by simpa using hr) (.inl ⟨?_, hrun⟩) ?_
  · exact hQ.back h
  · simp only [Region.wanted, hy, hbw]; cases want <;> rfl
  · exact k F I0 w0 I w _ E hI (hS.put (Nat.le_of_ble_eq_true hd) hv A)

/-- A guarded operation that is not wanted. -/
theorem AI.gskip {i d j t : Nat} {want b : Bool} {fuel : Nat} {listed : Array Bool} {op : Op} {T : TypeId} {pos : String} {after : Array Edge} {e : Env} {ds : List ADef} {A : List Chunk}
    (hi : ops[i]? = some ⟨some d, op, T, pos, after, some (j, want)⟩) (hd : Nat.blt d N = true) (hs : Region.noSelect ops = true) (hf : Region.free .any ops listed i = true) (hr : (Region.ready .any ops listed).contains i = true)
    (hj : (ops[j]?).bind (·.dst) = some t) (hb : ev e t = .v (.bool b)) (ht : Nat.blt t N = true) (hQ : NoPanic d Q)
    (hbw : b = !want) (k : AI P N ops Q fuel (listed.setIfInBounds i true) ⟨(d, .v undef) :: e, ds, A⟩) : AI P N ops Q (fuel + 1) listed ⟨e, ds, A⟩ := fun F I0 w0 I w a E hI hS => by
  have hy := yielded_v (ops := ops) hS hj hb ht
  refine wpAnyI_first hi (Region.noSelect_spec hs) (fun c a w h => ?_) fuel listed a w I (Region.free_spec hi hf) (by simpa using hr) (.inr ⟨?_, rfl⟩) ?_
  · exact hQ.back h
  · simp only [Region.wanted, hy, hbw]; cases want <;> rfl
  · exact k F I0 w0 I w _ E hI (hS.put (Nat.le_of_ble_eq_true hd) (.v _) A)

theorem AI.gskip_u {i d j t : Nat} {want : Bool} {fuel : Nat} {listed : Array Bool} {op : Op} {T : TypeId} {pos : String} {after : Array Edge} {e : Env} {ds : List ADef} {A : List Chunk}
    (hi : ops[i]? = some ⟨some d, op, T, pos, after, some (j, want)⟩) (hd : Nat.blt d N = true) (hs : Region.noSelect ops = true) (hf : Region.free .any ops listed i = true) (hr : (Region.ready .any ops listed).contains i = true)
    (hj : (ops[j]?).bind (·.dst) = some t) (hb : ev e t = .v undef) (ht : Nat.blt t N = true) (hQ : NoPanic d Q)
    (k : AI P N ops Q fuel (listed.setIfInBounds i true) ⟨(d, .v undef) :: e, ds, A⟩) : AI P N ops Q (fuel + 1) listed ⟨e, ds, A⟩ := fun F I0 w0 I w a E hI hS => by
  have hy := yielded_v (ops := ops) hS hj hb ht
  refine wpAnyI_first hi (Region.noSelect_spec hs) (fun c a w h => ?_) fuel listed a w I (Region.free_spec hi hf) (by simpa using hr) (.inr ⟨?_, rfl⟩) ?_
  · exact hQ.back h
  · simp only [Region.wanted, hy]; rfl
  · exact k F I0 w0 I w _ E hI (hS.put (Nat.le_of_ble_eq_true hd) (.v _) A)
end
end Go.Av
