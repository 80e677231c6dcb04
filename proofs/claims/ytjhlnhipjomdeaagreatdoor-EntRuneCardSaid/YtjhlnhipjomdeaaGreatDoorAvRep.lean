/-
  Slices that may be nil in a table; copies into a row of one's own; a method called by way of an interface. No program is spoken of.
-/
import Derived.Test.YtjhlnhipjomdeaaGreatDoorAvArr
import Derived.Test.YtjhlnhipjomdeaaGreatDoorAvStill
import Derived.Test.YtjhlnhipjomdeaaGreatDoorAvH
import Derived.Test.YtjhlnhipjomdeaaGreatDoorAvFn
import Derived.Test.YtjhlnhipjomdeaaGreatDoorAvPan
set_option linter.unusedVariables false
set_option linter.unusedSimpArgs false
namespace Go.Av
open Go.RowKit Go.Pv

section
variable {P : Program} {A : List Chunk} {e : Env} {x y z : Operand} {d : Option Nat} {pos : String} {after : Array Edge} {g : Option (Nat × Bool)} {T T' T2 : TypeId} {av av' : AV} {o : Oper}

theorem OpS.weak (h : OpS P o e av) (hw : ∀ I w v, Rel I w av v → Rel I w av' v) : OpS P o e av' := fun I w ρ hρ => let ⟨v, hv, k⟩ := h I w ρ hρ; ⟨v, hw I w v hv, k⟩
theorem OpR.weak {A' : List Chunk} (h : OpR P o e A av A') (hw : ∀ I w v, Rel I w av v → Rel I w av' v) : OpR P o e A av' A' := fun F I w ρ hI hρ => let ⟨n, v, w', I', a, b, c, f, g⟩ := h F I w ρ hI hρ; ⟨n, v, w', I', a, b, c, f, hw _ _ _ g⟩

/-- Nobody will let it grow. -/
theorem OpX.still {α : Type} {E : Enc α} {l : List α} {El : TypeId} (h : OpX P o e A (fun av A' => ∃ t, av = slE E l (some t) ∧ A' = .tok t El :: A)) : OpR P o e A (slE E l none) A := fun F I w ρ hI hρ => by
  obtain ⟨n, v, w', I', av, A', a, b, c, hI', hr, t, rfl, rfl⟩ := h F I w ρ hI hρ
  exact ⟨n, v, w', I', a, b, c, hI'.sub (List.sublist_cons_self ..), (Wv.tok _ _ _).rel hr⟩

/-- Bytes, or nil. -/
def ob : Option (List UInt8) → AV
  | none => nilS
  | some l => slE Enc.byte l none
def Enc.ob : Enc (Option (List UInt8)) := ⟨1, fun z => [Go.Av.ob z], by decide, fun _ => rfl, fun z c h => by simp at h; subst h; cases z <;> rfl⟩
theorem ob_sl (z : Option (List UInt8)) (I : Info) (w : World) (v : Value) (h : Rel I w (ob z) v) : Rel I w (slE Enc.byte (z.getD []) none) v := by
  cases z with
  | some l => exact h
  | none =>
    have := rel_v h
    subst this
    exact .slz _ _ _

theorem eqGuard_sl {op : BinOp} {a b : Option Addr} {l c m n : Nat} (w : World) : (eqGuard op T x y (.slice a l c) (.slice b m n)).run P w = .ok () w := by
  unfold eqGuard
  cases op <;> rfl
theorem equal_sl_nil {El : TypeId} {a : Option Addr} {l c : Nat} (hT : P.underlying T = some (.slice El)) (w : World) : (Op.equal T (.slice a l c) (.slice none 0 0)).run P w = .ok a.isNone w := by
  unfold Op.equal
  rw [show Op.maxDepth = 9999 + 1 from rfl, Op.equalIn]
  simp only [Sem.run_bind, run_underlying hT, Result.andThen_ok]
  cases a <;> rfl
/-- Is it nil? -/
theorem opS_ob_nil {op : BinOp} {El : TypeId} {z : Option (List UInt8)} (hop : op = .eql ∨ op = .neq) (hT : P.underlying T = some (.slice El)) (hx : opv e x = ob z) (hy : opv e y = nilS) (hz : decide (z ≠ some []) = true) :
    OpS P ⟨d, .binOp op T x y T', T2, pos, after, g⟩ e (B (if op = .eql then z.isNone else !z.isNone)) := fun I w ρ hρ => by
  have h1 := hx ▸ hρ x
  have h2 := rel_v (hy ▸ hρ y)
  have key : ∃ a l c, ρ x = .slice a l c ∧ a.isNone = z.isNone := by
    cases z with
    | none => exact ⟨none, 0, 0, rel_v h1, rfl⟩
    | some l =>
      obtain ⟨a, cap, xs, e1, _, _, hor⟩ := rel_slE h1
      refine ⟨a, _, cap, e1, ?_⟩
      rcases hor with h0 | ⟨b, off, e2, _⟩
      · have : l = [] := List.eq_nil_of_length_eq_zero h0
        subst this
        simp at hz
      · rw [e2]; rfl
  obtain ⟨a, l, c, e1, ha⟩ := key
  refine ⟨.bool (if op = .eql then z.isNone else !z.isNone), .v _, fun w' _ _ => ?_⟩
  rcases hop with rfl | rfl
  · simp only [execOp, e1, h2, Sem.run_bind, eqGuard_sl, Result.andThen_ok, binOp, equal_sl_nil hT, Sem.run_pure, ha, if_true]
  · simp only [execOp, e1, h2, Sem.run_bind, eqGuard_sl, Result.andThen_ok, binOp, equal_sl_nil hT, Sem.run_pure, ha]
    rfl
theorem opS_nil_nil {op : BinOp} {El : TypeId} (hop : op = .eql ∨ op = .neq) (hT : P.underlying T = some (.slice El)) (hx : opv e x = nilS) (hy : opv e y = nilS) :
    OpS P ⟨d, .binOp op T x y T', T2, pos, after, g⟩ e (B (if op = .eql then true else false)) := by
  have := opS_ob_nil (P := P) (d := d) (pos := pos) (after := after) (g := g) (T' := T') (T2 := T2) (z := none) hop hT (hx.trans rfl) hy (by decide)
  rcases hop with rfl | rfl <;> exact this

theorem g_slice_vwf {o len cap : Nat} {q : IntKind} {n : Int} {El : TypeId} (hT : P.underlying T = some (.slice El)) (hsz : cellsAt P El = some 1) (hx : opv e x = .vw o 0 len cap) (hy : opv e y = .v (.int q n)) (hg : decide (0 ≤ n ∧ n < len) = true) (hc : len ≤ cap) :
    OpS P ⟨d, .slice T x (some y) none none, T2, pos, after, g⟩ e (.vw o n.toNat (len - n.toNat) (cap - n.toNat)) := by
  obtain ⟨h1, h2⟩ := of_decide_eq_true hg
  have := opS_slice_vw_from (P := P) (d := d) (pos := pos) (after := after) (g := g) (T2 := T2) (k := 1) (lo := n.toNat) hT hsz hx hy (Int.toNat_of_nonneg h1).symm (by omega) (by omega) (by omega)
  rw [Nat.zero_add, Nat.mul_one] at this
  exact this
/-- Bytes are copied into a row of one's own, from a place on. -/
theorem g_copy_row {l m r : List UInt8} {o n lo len cap k : Nat} {El T3 : TypeId} (hT : P.underlying T = some (.slice El)) (hsz : cellsAt P El = some 1) (hx : opv e x = .vw o lo len cap) (hy : opv e y = slE Enc.byte m none)
    (hA : A[k]? = some (.obj o (Enc.byte.fl l ++ List.replicate n .any))) (hg : decide (m.length ≤ len) = true) (hg2 : decide (lo + m.length ≤ l.length) = true) (hr : l.take lo ++ m ++ l.drop (lo + m.length) = r) :
    OpR P ⟨d, .call ⟨.builtin .copy, #[x, y], #[T, T2]⟩, T3, pos, after, g⟩ e A (i64 m.length) (A.set k (.obj o (Enc.byte.fl r ++ List.replicate n .any))) := by
  have h1 := of_decide_eq_true hg
  have h2 := of_decide_eq_true hg2
  have hl : (Enc.byte.fl l).length = l.length := by rw [Enc.fl_length]; exact Nat.mul_one _
  have hm : (Enc.byte.fl m).length = m.length := by rw [Enc.fl_length]; exact Nat.mul_one _
  have := opR_copy_sl (P := P) (d := d) (pos := pos) (after := after) (g := g) (T2 := T2) (T3 := T3) (A := A) hT (E := Enc.byte) hsz hx hy hA h1 (by rw [List.length_append, hl]; show lo + m.length * 1 ≤ _; omega)
  have e1 : setAll (Enc.byte.fl l ++ List.replicate n .any) lo (Enc.byte.fl m) = Enc.byte.fl r ++ List.replicate n .any := by
    have f1 : ∀ q : List UInt8, Enc.byte.fl q = q.map u8 := fun q => by
      induction q with
      | nil => rfl
      | cons a q ih => rw [Enc.fl_cons, ih]; rfl
    subst hr
    unfold setAll
    simp only [f1, List.map_append, List.map_take, List.map_drop, List.length_map]
    rw [List.take_append_of_le_length (by simp; omega), List.drop_append_of_le_length (by simp; omega)]
    simp
  rw [e1] at this
  exact this
end
/-- A method called by way of an interface's value. -/
theorem AO.invoke {P : Program} {N : Nat} {Q : Post} {ro : Option Nat} {ops : Array Oper} {rest : List Nat} {d : Nat} {x : Operand} {nm : String} {f : FuncId} {t : TypeId} {args : Array Operand} {argTypes : Array TypeId} {T : TypeId} {pos : String} {after : Array Edge} {g : Option (Nat × Bool)} {e : Env} {ds : List ADef} {A A1 : List Chunk} (B : List Chunk)
    {R : AE → List Chunk → Prop} {rv : AV} {avs : List AV} (hd : Nat.blt d N = true) (hx : opv e x = .ifc t rv) (hm : ∀ v w, (method (P.types.size + Made.depth) t v nm).run P w = .ok (f, v) w) (hf : ∀ args w, (callFunc f args).run P w = .ok (.enter f args) w) (ha : args.toList.map (opv e) = avs)
    (h : ACalls P f (rv :: avs) A1 R) (p : A.Perm (A1 ++ B)) (k : ∀ av A', R (.ret av) A' → AR P ro N ops Q rest ⟨(d, av) :: e, ds, A' ++ B⟩)
    (kp : ∀ c A', R (.pan c) A' → Q (.panic c) ⟨e, ds, A' ++ B⟩) :
    AO P ro N ops Q rest ⟨some d, .call ⟨.invoke x nm, args, argTypes⟩, T, pos, after, g⟩ ⟨e, ds, A⟩ := fun F I w a hI hS => by
  have hS' := hS
  have hrl : RelL I w avs (args.toList.map a.eval) := by
    rw [← ha]; exact RelL.map _ _ _ fun x _ => hS'.op x
  have hxr := hx ▸ hS'.op x
  generalize e1 : a.eval x = u at hxr
  cases hxr with
  | ifc _ _ y hy =>
  refine ⟨fun _ _ => fence_fn _, ?_⟩
  have hex : (Oper.semAt (fence ro).round a.eval ⟨some d, .call ⟨.invoke x nm, args, argTypes⟩, T, pos, after, g⟩).run P w = .ok (.enter f (#[y] ++ args.map a.eval)) w := by
    rw [Oper.semAt_eq _ _ _ (fun c h => by cases h)]
    simp only [execOp, resolve, Sem.run_bind, Sem.run_pure, Result.andThen_ok, Go.invoke]
    have e0 : (#[a.eval x] ++ args.map a.eval)[0]? = some (.iface t y) := by rw [e1, Array.getElem?_append]; rfl
    have e2 : (#[a.eval x] ++ args.map a.eval).extract 1 (#[a.eval x] ++ args.map a.eval).size = args.map a.eval := by
      apply Array.ext'
      simp
      exact List.take_of_length_le (by simp)
    have e3 : Sem.run P program w = .ok P w := rfl
    simp only [e0, e2, callMethod, Sem.run_bind, e3, hm, Result.andThen_ok]
    exact hf _ _
  rw [hex]
  refine ⟨fence_n, AO.call.callsIn_wide'.2 ?_⟩
  have hI2 : Inv I (A1 ++ (B ++ F)) w := by rw [← List.append_assoc]; exact hI.perm (p.append_right F)
  have hc := h (B ++ F) I w _ hI2 (RelL.cons hy hrl)
  have he : (y :: args.toList.map a.eval).toArray = #[y] ++ args.map a.eval := by apply Array.ext'; simp
  rw [he] at hc
  refine hc.mono fun en w' ⟨I', ae, A', E, hI', hre, hR⟩ => ?_
  have hI3 : Inv I' ((A' ++ B) ++ F) w' := by rw [List.append_assoc]; exact hI'
  cases en with
  | returned v =>
    cases ae with
    | ret av =>
      have hk := k av A' hR F I' w' (a.put (some d) v) hI3 ((hS.mono E).put (Nat.le_of_ble_eq_true hd) hre _)
      exact wpOpsIn_mono' rest (fun _ _ _ => CQ.mono E fun _ _ h => h) _ _ hk
    | pan c => exact hre.elim
  | panicked c =>
    cases ae with
    | ret av => exact hre.elim
    | pan c' =>
      cases hre
      exact ⟨I', ⟨e, ds, A' ++ B⟩, E, hI3, ⟨hS.size, (hS.mono E).env, (hS.mono E).ds⟩, kp _ A' hR⟩
  | outgrown => cases ae <;> exact hre.elim
/-- A function by name, deferred. -/
theorem AO.deferFn {P : Program} {N : Nat} {Q : Post} {ops : Array Oper} {rest : List Nat} {x : Operand} {f : Fn} {args : Array Operand} {argTypes : Array TypeId} {T : TypeId} {pos : String} {after : Array Edge} {g : Option (Nat × Bool)} {e : Env} {ds : List ADef} {A : List Chunk}
    (hx : opv e x = .v (.func f #[] #[])) (k : AR P none N ops Q rest ⟨e, .call f [] (args.toList.map (opv e)) :: ds, A⟩) :
    AO P none N ops Q rest ⟨none, .defer ⟨.value x, args, argTypes⟩, T, pos, after, g⟩ ⟨e, ds, A⟩ := fun F I w a hI hS => by
  have hS' := hS
  have hv := rel_v (hx ▸ hS'.op x)
  refine ⟨fun _ _ => fence_fn _, ?_⟩
  have hex : (Oper.semAt (fence none).round a.eval ⟨none, .defer ⟨.value x, args, argTypes⟩, T, pos, after, g⟩).run P w = .ok (.defer { target := .fn f #[], args := (args.toList.map a.eval).toArray }) w := by
    rw [show (fence none).round = none from rfl, Oper.semAt_none]
    simp only [execOp, Sem.run_bind, ofValue_run hv, Result.andThen_ok, Sem.run_pure]
    congr 2
    congr 1
    apply Array.ext'; simp
  rw [hex]
  exact k F I w _ hI ⟨hS.size, hS.env, .cons (.call f [] _ [] _ RelL.nil (RelL.map _ _ _ fun x _ => hS'.op x)) hS.ds⟩
end Go.Av
