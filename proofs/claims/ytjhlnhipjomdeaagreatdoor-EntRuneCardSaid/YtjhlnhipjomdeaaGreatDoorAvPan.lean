/-
  Panics that pass through, deferred functions that recover, loops gone through round by round. No program is spoken of.
-/
import Derived.Test.YtjhlnhipjomdeaaGreatDoorAvFn
import Derived.Test.YtjhlnhipjomdeaaGreatDoorAvCard
import Derived.LoopNIn
set_option linter.unusedVariables false
set_option linter.unusedSimpArgs false
namespace Go.Av
open Go.RowKit Go.Pv

/-- What a function that may panic comes to: 'ok' of what it answers; or the panic, of which nothing is left. -/
def PanOr {ρ : Type} (ok : ρ → AE → List Chunk → Prop) (ch : Int → List PanicEntry) : Res ρ → AE → List Chunk → Prop
  | .ok r => ok r
  | .pan e => fun ae A' => ae = .pan (ch e) ∧ A' = []
/-- The chain of one panic. -/
def pan1 (v : Value) : List PanicEntry := [{ v := v, recovered := false }]

section
variable {P : Program} {ro : Option Nat} {N : Nat} {Q : Post} {ops : Array Oper}

def ALR (P : Program) (ro : Option Nat) (N : Nat) (c : Code) (Q : Post) : Nat → St → Prop
  | 0, _ => False
  | m + 1, s => AW P ro N c (Then (ALR P ro N c Q m) Q) s

theorem ALR.sound {c : Code} {F : List Chunk} {I0 : Info} {w0 : World} : ∀ (m : Nat) (s : St) (I : Info) (w : World) (a : Act), Ext I0 w0 I w → Inv I (s.A ++ F) w → RelS N I w s a → ALR P ro N c Q m s →
    Code.roundsIn (fence ro) 0 P c (CQ N F I0 w0 Q) m a w := by
  intro m
  induction m with
  | zero => intro s I w a _ _ _ h; exact h.elim
  | succ m ih =>
    intro s I w a E hI hS h
    refine wpIn_mono (h F I w a hI hS) fun e a' w' hq => ?_
    obtain ⟨I', s', E', hI', hS', hq⟩ := hq
    cases e with
    | normal => exact ih s' I' w' a' (E.trans E') hI' hS' hq
    | _ => exact ⟨I', s', E.trans E', hI', hS', hq⟩

/-- A loop of which all rounds are gone through. -/
theorem AW.rounds (m : Nat) {c : Code} {s : St} (h : ALR P ro N c Q m s) : AW P ro N (.loop c) Q s := fun F I w a hI hS =>
  wpIn_loop_rounds m (ALR.sound m s I w a (Ext.refl _ _) hI hS h)

/-- A call that panics. -/
theorem AO.callPan {rest : List Nat} {d : Nat} {f : FuncId} {args : Array Operand} {argTypes : Array TypeId} {T : TypeId} {pos : String} {after : Array Edge} {g : Option (Nat × Bool)} {e : Env} {ds : List ADef} {A A1 B : List Chunk} {c : List PanicEntry} {avs : List AV} (is : List Nat)
    (hd : Nat.blt d N = true) (hf : ∀ args w, (callFunc f args).run P w = .ok (.enter f args) w) (ha : args.toList.map (opv e) = avs)
    (h : ACalls P f avs A1 (fun ae A' => ae = .pan c ∧ A' = [])) (p : pickL A is = some (A1, B)) (k : Q (.panic c) ⟨e, ds, B⟩) :
    AO P ro N ops Q rest ⟨some d, .call ⟨.value (.func f), args, argTypes⟩, T, pos, after, g⟩ ⟨e, ds, A⟩ :=
  AO.call B hd hf ha h (pickL_perm is _ _ _ p) (fun av A' ⟨h1, _⟩ => by cases h1) (fun c' A' ⟨h1, h2⟩ => by cases h1; subst h2; exact k)
theorem AIO.callPan {fuel : Nat} {listed : Array Bool} {d : Nat} {f : FuncId} {args : Array Operand} {argTypes : Array TypeId} {T : TypeId} {pos : String} {after : Array Edge} {g : Option (Nat × Bool)} {e : Env} {ds : List ADef} {A A1 B : List Chunk} {c : List PanicEntry} {avs : List AV} (is : List Nat)
    (hd : Nat.blt d N = true) (hf : ∀ args w, (callFunc f args).run P w = .ok (.enter f args) w) (ha : args.toList.map (opv e) = avs)
    (h : ACalls P f avs A1 (fun ae A' => ae = .pan c ∧ A' = [])) (p : pickL A is = some (A1, B)) (k : Q (.panic c) ⟨e, ds, B⟩) :
    AIO P N ops Q fuel listed ⟨some d, .call ⟨.value (.func f), args, argTypes⟩, T, pos, after, g⟩ ⟨e, ds, A⟩ :=
  AIO.call B hd hf ha h (pickL_perm is _ _ _ p) (fun av A' ⟨h1, _⟩ => by cases h1) (fun c' A' ⟨h1, h2⟩ => by cases h1; subst h2; exact k)
/-- A panic, its value known whole. -/
theorem AO.panicT {rest : List Nat} {d : Option Nat} {x : Operand} {c : List PanicEntry} {t : TypeId} {v : Value} {T : TypeId} {pos : String} {after : Array Edge} {g : Option (Nat × Bool)} {e : Env} {ds : List ADef} {A : List Chunk}
    (hx : conc (opv e x) = some (.iface t v)) (hc : pan1 (.iface t v) = c) (k : Q (.panic c) ⟨e, ds, A⟩) :
    AO P ro N ops Q rest ⟨d, .panic x, T, pos, after, g⟩ ⟨e, ds, A⟩ := AO.panic hx (by subst hc; exact k)

/-! ### Values known whole, the other way -/
mutual
theorem conc_mk {I : Info} {w : World} : ∀ (a : AV) (x : Value), conc a = some x → Rel I w a x
  | .v y, x, h => by cases h; exact .v _
  | .ifc t a, x, h => by
    simp only [conc, Option.map_eq_some_iff] at h
    obtain ⟨y, hy, rfl⟩ := h
    exact .ifc _ _ _ (conc_mk a y hy)
  | .agg l, x, h => by
    simp only [conc, Option.map_eq_some_iff] at h
    obtain ⟨y, hy, rfl⟩ := h
    have := concL_mk (I := I) (w := w) l y hy
    exact .agg _ _ this.1 this.2
  | .sl .., _, h | .cp .., _, h | .pt .., _, h | .vw .., _, h | .tup .., _, h | .fn .., _, h | .any, _, h | .anyk .., _, h | .anyi, _, h | .mp .., _, h | .rp .., _, h | .mk .., _, h => by simp [conc] at h
theorem concL_mk {I : Info} {w : World} : ∀ (l : List AV) (xs : List Value), concL l = some xs → RelL I w l xs
  | [], xs, h => by simp only [concL, Option.some.injEq] at h; subst h; exact RelL.nil
  | a :: l, xs, h => by
    simp only [concL] at h
    split at h
    · rename_i x r hx hrr
      cases h
      exact RelL.cons (conc_mk a x hx) (concL_mk l r hrr)
    · cases h
end

/-! ### Type assertions of values whose type is known -/
variable {e : Env} {d : Option Nat} {T : TypeId} {pos : String} {after : Array Edge} {g : Option (Nat × Bool)} {x : Operand}
theorem opS_assert_same {t t0 : TypeId} {a : AV} {D : TypeDesc} (hT : P.underlying t = some D) (hD : (match D with | .interface _ => true | _ => false) = false) (hx : opv e x = .ifc t a) :
    OpS P ⟨d, .typeAssert x t0 t true, T, pos, after, g⟩ e (.tup [a, B true]) := fun I w ρ hρ => by
  have h := hx ▸ hρ x
  generalize e1 : ρ x = v at h
  cases h with
  | ifc _ _ y hy =>
    refine ⟨.tuple #[y, .bool true], .tup _ [y, .bool true] rfl (RelL.cons hy (RelL.cons (.v _) RelL.nil)).2, fun w' _ _ => ?_⟩
    simp only [execOp, e1, Instr.typeAssert, Sem.run_bind, run_underlying hT, Result.andThen_ok]
    cases D <;> first | (cases hD; done) | simp only [if_true, Sem.run_pure, Result.andThen_ok, Sem.run_bind]

/-! ### Results in cells -/
/-- What a result's cell reads as. -/
def CellV (P : Program) (e : Env) (A : List Chunk) (a t : Nat) (av : AV) : Prop := ∀ F I w v, Inv I (A ++ F) w → Rel I w (ev e a) v → ∃ p x, (asAddr v).run P w = .ok p w ∧ (loadVar t p).run P w = .ok x w ∧ Rel I w av x

theorem CellV.one {e : Env} {A : List Chunk} {a t o off : Nat} (i : Nat) {cs : List AV} {c : AV} {D : TypeDesc} (hT : P.underlying t = some D) (hD : aggDesc D = false) (hx : ev e a = .pt o off) (hA : A[i]? = some (.obj o cs)) (hc : cs[off]? = some c) : CellV P e A a t c := fun F I w v hI hv => by
  rw [hx] at hv
  cases hv with
  | pt o off b ho =>
    obtain ⟨b', arr, ho', he, hca, hrl⟩ := hI.holds _ (mem_app hA F)
    rw [ho] at ho'; cases ho'
    have hlt : off < cs.length := (List.getElem?_eq_some_iff.1 hc).1
    have hlt' : off < arr.length := by rw [hrl.1]; exact hlt
    have h0 : w.cell? ⟨b, off, none⟩ = some (arr.getD off undef) := by rw [hca.cell]; simp [List.getD, hlt']
    have hr := hrl.2 off hlt
    rw [(List.getElem?_eq_some_iff.1 hc).2] at hr
    refine ⟨⟨b, off, none⟩, _, rfl, ?_, hr⟩
    simp only [loadVar, Sem.run_bind, run_isAgg hT hD, Result.andThen_ok, Bool.false_eq_true, if_false, run_load, h0]
theorem CellV.agg {e : Env} {A : List Chunk} {a t o off n : Nat} (i : Nat) {cs : List AV} {D : TypeDesc} (hT : P.underlying t = some D) (hD : aggDesc D = true) (hsz : cellsAt P t = some n) (hx : ev e a = .pt o off) (hA : A[i]? = some (.obj o cs)) (hn : off + n ≤ cs.length) : CellV P e A a t (.agg ((cs.drop off).take n)) := fun F I w v hI hv => by
  rw [hx] at hv
  cases hv with
  | pt o off b ho =>
    obtain ⟨b', arr, ho', he, hca, hrl⟩ := hI.holds _ (mem_app hA F)
    rw [ho] at ho'; cases ho'
    have hl : (loadCells ⟨b, off, none⟩ n).run P w = .ok ((List.range n).map fun j => arr.getD (off + j) undef).toArray w := run_loadCells w _ n _ (fun j hj => by
      rw [addr_add, hca.cell, List.getElem?_eq_getElem (by rw [hrl.1]; omega)]
      simp [List.getD, show off + j < arr.length by rw [hrl.1]; omega])
    refine ⟨⟨b, off, none⟩, _, rfl, ?_, .agg _ ((List.range n).map fun j => arr.getD (off + j) undef) (by simp; omega) (fun j hj => ?_)⟩
    · simp only [loadVar, run_isAgg hT hD, if_true, run_sizeOf hsz, hl, Sem.run_bind, Sem.run_pure, Result.andThen_ok]
    · have hj' : j < n := by simp at hj; omega
      have h1 := hrl.2 (off + j) (by omega)
      simp only [List.getElem_take, List.getElem_drop, List.getD, List.getElem?_map, List.getElem?_range hj', Option.map_some, Option.getD_some]
      simpa [List.getD] using h1

theorem ResT.cell1 {fn : Func} {e : Env} {A : List Chunk} {a t : Nat} {av : AV} (hr : fn.results = #[.cell a t]) (h : CellV P e A a t av) : ResT P fn N e A av := fun F I w tmps hI hs ht => by
  obtain ⟨p, x, h1, h2, h3⟩ := h F I w _ hI (ht a)
  refine ⟨x, ?_, h3⟩
  rw [Array.getD_eq_getD_getElem?] at h1
  simp only [results, hr]
  simp [h1, h2]
theorem ResT.cells2 {fn : Func} {e : Env} {A : List Chunk} {a t b u : Nat} {av bv : AV} (hr : fn.results = #[.cell a t, .cell b u]) (h : CellV P e A a t av) (g : CellV P e A b u bv) : ResT P fn N e A (.tup [av, bv]) := fun F I w tmps hI hs ht => by
  obtain ⟨p, x, h1, h2, h3⟩ := h F I w _ hI (ht a)
  obtain ⟨q, y, g1, g2, g3⟩ := g F I w _ hI (ht b)
  refine ⟨.tuple #[x, y], ?_, .tup _ [x, y] rfl (RelL.cons h3 (RelL.cons g3 RelL.nil)).2⟩
  rw [Array.getD_eq_getD_getElem?] at h1 g1
  simp only [results, hr]
  simp [h1, h2, g1, g2]
theorem ResT.resV {fn : Func} {e : Env} {ds : List ADef} {A : List Chunk} {av : AV} (h : ResT P fn N e A av) : ResV P fn N ⟨e, ds, A⟩ av := fun F I w a hI hS => h F I w a.tmps hI hS.size hS.env

/-! ### Deferred functions -/
theorem ALeaves.cons1 {fn : Func} {e : Env} {R : AE → List Chunk → Prop} {g : FuncId} {cap args : List AV} {ds : List ADef} {u u1 : FrameMode} {A A1 B A2 : List Chunk} {v : AV} (is : List Nat) (hu : u ≠ .run) (hf : ∀ as w, (callFunc g as).run P w = .ok (.enter g as) w)
    (p : pickL A is = some (A1, B)) (h : ADCalls P g (args ++ cap) A1 u fun ae u' A' => ae = .ret v ∧ u' = u1 ∧ A' = A2) (k : ALeaves P fn N e R ds (settle u1) (A2 ++ B)) :
    ALeaves P fn N e R (.call (.func g) cap args :: ds) u A := by
  refine ⟨hu, g, A1, B, rfl, hf, pickL_perm is _ _ _ p, fun F I w vs hI hv => ?_⟩
  intro c cs hc
  obtain ⟨en, u', w', fr, hq, h1, h2, h3⟩ := h F I w vs hI hv c cs hc
  refine ⟨en, u', w', fr, ?_, h1, h2, h3⟩
  obtain ⟨I', ae, A', E, hI', hre, rfl, rfl, rfl⟩ := hq
  exact ⟨I', _, _, E, hI', hre, k⟩

/-- A deferred function that does not recover. -/
theorem ADCalls.of_body {f : FuncId} {fn : Func} {c : Code} {args : List AV} {A : List Chunk} {u : FrameMode} {R : AE → FrameMode → List Chunk → Prop} (hf : P.funcs[f]? = some fn) (hb : fn.body = some c) (hl : Nat.ble args.length fn.ntmps = true)
    (h : AW P none fn.ntmps c (RetPost P fn fn.ntmps fun ae A' => R ae u A') ⟨argEnv 0 args, [], A⟩) : ADCalls P f args A u R := fun F I w vs hI hv => by
  refine callsD_of_wpS hf hb fun c₀ cs hu => ?_
  refine wpS_of_wp ((wpIn_wide (n := 0)).1 (wpIn_mono (h F I w _ hI (enter_rel hv (Nat.le_of_ble_eq_true hl))) fun e a w' hq => ?_))
  obtain ⟨I', s', E, hI', hS', hq⟩ := hq
  have hc : c₀ :: cs = { c₀ with mode := u } :: cs := by subst hu; rfl
  cases e with
  | normal =>
    obtain ⟨hds, av, A', hres, hsub, hR⟩ := hq
    obtain ⟨v, hrun, hv⟩ := hres F I' w' a hI' hS'
    exact ⟨RelDs.nil_inv (hds ▸ hS'.ds), u, hc, v, hrun, I', .ret av, A', E, hsub.inv hI', hv, hR⟩
  | ret =>
    obtain ⟨hds, av, A', hres, hsub, hR⟩ := hq
    obtain ⟨v, hrun, hv⟩ := hres F I' w' a hI' hS'
    exact ⟨RelDs.nil_inv (hds ▸ hS'.ds), u, hc, v, hrun, I', .ret av, A', E, hsub.inv hI', hv, hR⟩
  | panic c =>
    obtain ⟨hds, A', hsub, hR⟩ := hq
    exact ⟨RelDs.nil_inv (hds ▸ hS'.ds), u, hc, I', .pan c, A', E, hsub.inv hI', rfl, hR⟩
  | exit id => exact hq.elim
  | goto l => exact hq.elim
  | outgrown => exact hq.elim

/-- What recover hands out, and the mode that it leaves. -/
def Recovers (u : FrameMode) (v : Value) (u' : FrameMode) : Prop := (∃ older, u = .panicking ({ v := v, recovered := false } :: older) ∧ u' = .panicking ({ v := v, recovered := true } :: older)) ∨ (u = .returning ∧ v = .nilIface ∧ u' = .returning)

theorem Recovers.pan {v : Value} : Recovers (.panicking (pan1 v)) v (.panicking [{ v := v, recovered := true }]) := .inl ⟨[], rfl, rfl⟩
theorem Recovers.ret : Recovers .returning .nilIface .returning := .inr ⟨rfl, rfl, rfl⟩

/-- A deferred function that recovers first of all. -/
theorem ADCalls.of_recover {f : FuncId} {fn : Func} {id : Nat} {rest : Code} {args : List AV} {A : List Chunk} {u u' : FrameMode} {R : AE → FrameMode → List Chunk → Prop} {v : Value} {av : AV} {t : Nat} {T : TypeId} {pos : String} {after : Array Edge} {l : List Nat}
    (hf : P.funcs[f]? = some fn) (hb : fn.body = some (.seq (.region id ops false) rest)) (hl : Nat.ble args.length fn.ntmps = true) (hr : List.range ops.size = 0 :: l) (ho : ops[0]? = some ⟨some t, .call ⟨.builtin .recover, #[], #[]⟩, T, pos, after, none⟩)
    (ht : Nat.blt t fn.ntmps = true) (hu : Recovers u v u') (hv : conc av = some v)
    (h : ∀ cs, ASR P fn.ntmps ops cs (Then (AW P none fn.ntmps rest (RetPost P fn fn.ntmps fun ae A' => R ae u' A')) (RetPost P fn fn.ntmps fun ae A' => R ae u' A')) l ⟨(t, av) :: argEnv 0 args, [], A⟩) : ADCalls P f args A u R := fun F I w vs hI hvs => by
  refine callsD_of_wpS hf hb fun c₀ cs hu0 => ?_
  refine wpS_seq (wpS_region ?_)
  rw [hr]
  have hrel := enter_rel (A := A) hvs (Nat.le_of_ble_eq_true hl)
  have hS : RelS fn.ntmps I w ⟨(t, av) :: argEnv 0 args, [], A⟩ (({ tmps := vs.toArray ++ Array.replicate (fn.ntmps - vs.toArray.size) undef, defers := [] } : Act).put (some t) v) :=
    hrel.put (Nat.le_of_ble_eq_true ht) (conc_mk av v hv) A
  have key := h ({ c₀ with mode := u' } :: cs) F I w _ hI hS
  have fin : ∀ e a cs' w', cs' = ({ c₀ with mode := u' } : Frame) :: cs ∧ CQ fn.ntmps F I w (RetPost P fn fn.ntmps fun ae A' => R ae u' A') e a w' →
      bodyPostS P fn c₀ cs (fun e u' w' => ∃ I' ae A', Ext I w I' w' ∧ Inv I' (A' ++ F) w' ∧ RelE I' w' ae e ∧ R ae u' A') e a cs' w' := by
    rintro e a cs' w' ⟨rfl, I', s', E, hI', hS', hq⟩
    cases e with
    | normal =>
      obtain ⟨hds, av, A', hres, hsub, hR⟩ := hq
      obtain ⟨v, hrun, hv⟩ := hres F I' w' a hI' hS'
      exact ⟨RelDs.nil_inv (hds ▸ hS'.ds), u', rfl, v, hrun, I', .ret av, A', E, hsub.inv hI', hv, hR⟩
    | ret =>
      obtain ⟨hds, av, A', hres, hsub, hR⟩ := hq
      obtain ⟨v, hrun, hv⟩ := hres F I' w' a hI' hS'
      exact ⟨RelDs.nil_inv (hds ▸ hS'.ds), u', rfl, v, hrun, I', .ret av, A', E, hsub.inv hI', hv, hR⟩
    | panic c =>
      obtain ⟨hds, A', hsub, hR⟩ := hq
      exact ⟨RelDs.nil_inv (hds ▸ hS'.ds), u', rfl, I', .pan c, A', E, hsub.inv hI', rfl, hR⟩
    | exit id => exact hq.elim
    | goto l => exact hq.elim
    | outgrown => exact hq.elim
  have next : ∀ e a cs' w', cs' = ({ c₀ with mode := u' } : Frame) :: cs ∧ CQ fn.ntmps F I w (Then (AW P none fn.ntmps rest (RetPost P fn fn.ntmps fun ae A' => R ae u' A')) (RetPost P fn fn.ntmps fun ae A' => R ae u' A')) e a w' →
      Exit.thenS (rest.wpS P (bodyPostS P fn c₀ cs (fun e u' w' => ∃ I' ae A', Ext I w I' w' ∧ Inv I' (A' ++ F) w' ∧ RelE I' w' ae e ∧ R ae u' A'))) (bodyPostS P fn c₀ cs (fun e u' w' => ∃ I' ae A', Ext I w I' w' ∧ Inv I' (A' ++ F) w' ∧ RelE I' w' ae e ∧ R ae u' A')) e a cs' w' := by
    rintro e a cs' w' ⟨rfl, I', s', E, hI', hS', hq⟩
    cases e with
    | normal =>
      refine wpS_of_wp ((wpIn_wide (n := 0)).1 (wpIn_mono (hq F I' w' a hI' hS') fun e a w' hq => ?_))
      exact fin e a _ w' ⟨rfl, CQ.mono E (fun _ _ h => h) hq⟩
    | ret => exact fin .ret a _ w' ⟨rfl, I', s', E, hI', hS', hq⟩
    | panic c => exact fin (.panic c) a _ w' ⟨rfl, I', s', E, hI', hS', hq⟩
    | exit id => exact hq.elim
    | goto l => exact hq.elim
    | outgrown => exact hq.elim
  have key2 := wpOpsS_mono l next _ _ _ key
  simp only [wpOpsS, ho, Region.wanted, if_true]
  have hrun : ∀ ρ : Operand → Value, (execOp ρ ⟨some t, .call ⟨.builtin .recover, #[], #[]⟩, T, pos, after, none⟩).run P w = .ok .recover w := fun ρ => rfl
  rw [hrun]
  rcases hu with ⟨older, rfl, rfl⟩ | ⟨rfl, rfl, rfl⟩
  · simp only [recoverD, hu0]
    exact key2
  · have hc : ({ c₀ with mode := .returning } : Frame) = c₀ := by rw [← hu0]
    rw [hc] at key2
    simp only [recoverD, hu0]
    exact key2
end
end Go.Av
