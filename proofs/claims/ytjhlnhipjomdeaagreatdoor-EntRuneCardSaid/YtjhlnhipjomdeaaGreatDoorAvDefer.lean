/-
  Functions that lay deferred calls, panics, and deferred functions that recover: rules in terms of content. No program is spoken of.
-/
import Derived.Test.YtjhlnhipjomdeaaGreatDoorAvOwn
import Derived.Recover
set_option linter.unusedVariables false
set_option linter.unusedSimpArgs false
namespace Go.Av
open Go.RowKit

/-- What a function's results read as, once its body and its deferred calls are over. -/
def ResT (P : Program) (fn : Func) (N : Nat) (e : Env) (A : List Chunk) (av : AV) : Prop :=
  ∀ F I w tmps, Inv I (A ++ F) w → tmps.size = N → (∀ t, Rel I w (ev e t) (tmps.getD t undef)) → ∃ v, (results fn tmps).run P w = .ok v w ∧ Rel I w av v

/-- A function that is entered as a deferred call: how it ends, and the mode in which it leaves the frame below. -/
def ADCalls (P : Program) (f : FuncId) (args : List AV) (A : List Chunk) (u : FrameMode) (R : AE → FrameMode → List Chunk → Prop) : Prop :=
  ∀ F I w vs, Inv I (A ++ F) w → RelL I w args vs → CallsD P f vs.toArray u w fun e u' w' => ∃ I' ae A', Ext I w I' w' ∧ Inv I' (A' ++ F) w' ∧ RelE I' w' ae e ∧ R ae u' A'

/-- How a function is left that has these deferred calls. -/
def ALeaves (P : Program) (fn : Func) (N : Nat) (e : Env) (R : AE → List Chunk → Prop) : List ADef → FrameMode → List Chunk → Prop
  | [], .returning, A => ∃ av A', ResT P fn N e A av ∧ Sub A' A ∧ R (.ret av) A'
  | [], .panicking c, A => ∃ A', Sub A' A ∧ R (.pan c) A'
  | [], .run, _ => False
  | .call f cap args :: ds, u, A => u ≠ .run ∧ ∃ g A1 B, f = .func g ∧ (∀ as w, (callFunc g as).run P w = .ok (.enter g as) w) ∧ A.Perm (A1 ++ B) ∧
      ADCalls P g (args ++ cap) A1 u fun ae u' A' => match ae with
        | .ret _ => ALeaves P fn N e R ds (settle u') (A' ++ B)
        | .pan c => ALeaves P fn N e R ds (raised u' c) (A' ++ B)
  | .mark _ :: _, _, _ => False

section
variable {P : Program} {fn : Func} {N : Nat} {e : Env} {R : AE → List Chunk → Prop} {F : List Chunk} {I0 : Info} {w0 : World}

theorem ALeaves.sound : ∀ (ads : List ADef) (u : FrameMode) (A : List Chunk) (ds : List Deferred) (I : Info) (w : World) (tmps : Array Value),
    Ext I0 w0 I w → Inv I (A ++ F) w → tmps.size = N → (∀ t, Rel I w (ev e t) (tmps.getD t undef)) → RelDs I w ads ds → ALeaves P fn N e R ads u A →
    Leaves P fn tmps (fun en w' => ∃ I' ae A', Ext I0 w0 I' w' ∧ Inv I' (A' ++ F) w' ∧ RelE I' w' ae en ∧ R ae A') ds u w := by
  intro ads
  induction ads with
  | nil =>
    intro u A ds I w tmps E hI hs ht hd h
    cases hd
    cases u with
    | run => exact h.elim
    | returning =>
      obtain ⟨av, A', hr, hsub, hR⟩ := h
      obtain ⟨v, hrun, hv⟩ := hr F I w tmps hI hs ht
      exact ⟨v, hrun, I, .ret av, A', E, hsub.inv hI, hv, hR⟩
    | panicking c =>
      obtain ⟨A', hsub, hR⟩ := h
      exact ⟨I, .pan c, A', E, hsub.inv hI, rfl, hR⟩
  | cons ad ads ih =>
    intro u A ds I w tmps E hI hs ht hd h
    cases hd with
    | cons hd hds =>
      rename_i d ds
      cases ad with
      | mark o => exact h.elim
      | call f cap args =>
        obtain ⟨hu, g, A1, B, rfl, hf, hp, hc⟩ := h
        cases hd with
        | call f cap args xs ys hx hy =>
          have hI2 : Inv I (A1 ++ (B ++ F)) w := by rw [← List.append_assoc]; exact hI.perm (hp.append_right F)
          refine ⟨hu, .func g, xs.toArray, g, (ys ++ xs).toArray, rfl, ?_, ?_⟩
          · simp only [invoke]
            rw [show ys.toArray ++ xs.toArray = (ys ++ xs).toArray by simp]
            exact hf _ _
          · intro c cs hcm
            obtain ⟨en, u', w', fr, hq, h1, h2, h3⟩ := hc (B ++ F) I w _ hI2 (hy.append hx) c cs hcm
            refine ⟨en, u', w', fr, ?_, h1, h2, h3⟩
            obtain ⟨I', ae, A', E', hI', hre, hR⟩ := hq
            have hI3 : Inv I' ((A' ++ B) ++ F) w' := by rw [List.append_assoc]; exact hI'
            cases en with
            | returned v =>
              cases ae with
              | ret av => exact ih _ _ _ I' w' tmps (E.trans E') hI3 hs (fun t => (ht t).mono E') (hds.mono E') hR
              | pan c => exact hre.elim
            | panicked c =>
              cases ae with
              | ret av => exact hre.elim
              | pan c' => cases hre; exact ih _ _ _ I' w' tmps (E.trans E') hI3 hs (fun t => (ht t).mono E') (hds.mono E') hR
            | outgrown => cases ae <;> exact hre.elim

/-- K: the temporaries that the results are read out of. -/
def RetPostD (P : Program) (fn : Func) (N : Nat) (K : List Nat) (R : AE → List Chunk → Prop) : Post
  | .normal, s | .ret, s => ALeaves P fn N s.env R s.ds .returning s.A
  | .panic c, s => ∃ e0 : Env, (∀ p ∈ e0, p.1 ∈ K) ∧ Env.le s.env e0 ∧ ALeaves P fn N e0 R s.ds (.panicking c) s.A
  | _, _ => False
theorem RetPostD.free {K : List Nat} {d : Nat} (hd : K.contains d = false) {c : List PanicEntry} {s : St} (h : RetPostD P fn N K R (.panic c) s) : RetPostD P fn N K R (.panic c) ⟨(d, .any) :: s.env, s.ds, s.A⟩ := by
  obtain ⟨e0, h1, h2, h3⟩ := h
  refine ⟨e0, h1, fun p hp => ?_, h3⟩
  have hne : d ≠ p.1 := fun e => by
    have := h1 p hp
    rw [← e] at this
    simp at hd
    exact hd this
  have hb : Nat.beq d p.1 = false := by
    cases hb : Nat.beq d p.1 with
    | false => rfl
    | true => exact absurd (Nat.eq_of_beq_eq_true hb) hne
  simp only [ev, hb]
  exact h2 p hp
end

theorem enter_rel {args : List AV} {vs : List Value} {fn : Func} {I : Info} {w : World} {A : List Chunk} (hv : RelL I w args vs) (hl' : args.length ≤ fn.ntmps) :
    RelS fn.ntmps I w ⟨argEnv 0 args, [], A⟩ { tmps := vs.toArray ++ Array.replicate (fn.ntmps - vs.toArray.size) undef, defers := [] } := by
  refine ⟨?_, fun t => ?_, .nil⟩
  · simp [hv.1]; omega
  · show Rel I w (ev (argEnv 0 args) t) _
    rw [ev_argEnv]
    simp only [Nat.zero_le, if_true, Nat.sub_zero]
    by_cases ht : t < args.length
    · have := hv.2 t ht
      have hx : t < vs.length := by rw [hv.1]; exact ht
      rw [show args.getD t .any = args[t] by simp [List.getD, ht]]
      have e1 : (vs.toArray ++ Array.replicate (fn.ntmps - vs.toArray.size) undef).getD t undef = vs.getD t undef := by
        rw [Array.getD_eq_getD_getElem?, Array.getElem?_append_left (by simpa using hx)]
        simp [List.getD]
      rw [e1]; exact this
    · rw [show args.getD t .any = .any by simp [List.getD, List.getElem?_eq_none (Nat.le_of_not_lt ht)]]
      exact .any _

/-- A function that lays deferred calls. -/
theorem ACalls.of_bodyD {P : Program} {f : FuncId} {fn : Func} {c : Code} {args : List AV} {A : List Chunk} {R : AE → List Chunk → Prop} (K : List Nat) (hf : P.funcs[f]? = some fn) (hb : fn.body = some c) (hl : Nat.ble args.length fn.ntmps = true)
    (h : AW P none fn.ntmps c (RetPostD P fn fn.ntmps K R) ⟨argEnv 0 args, [], A⟩) : ACalls P f args A R := fun F I w vs hI hv => by
  refine calls_of_wp_defers hf hb ((wpIn_wide (n := 0)).1 (wpIn_mono (h F I w _ hI (enter_rel hv (Nat.le_of_ble_eq_true hl))) fun e a w' hq => ?_))
  obtain ⟨I', s', E, hI', hS', hq⟩ := hq
  cases e with
  | normal => exact ALeaves.sound s'.ds .returning s'.A a.defers I' w' a.tmps E hI' hS'.size hS'.env hS'.ds hq
  | ret => exact ALeaves.sound s'.ds .returning s'.A a.defers I' w' a.tmps E hI' hS'.size hS'.env hS'.ds hq
  | panic c =>
    obtain ⟨e0, _, hle, hq⟩ := hq
    exact ALeaves.sound s'.ds (.panicking c) s'.A a.defers I' w' a.tmps E hI' hS'.size (fun t => (hle.ev t).rel (hS'.env t)) hS'.ds hq
  | exit id => exact hq.elim
  | goto l => exact hq.elim
  | outgrown => exact hq.elim

theorem ResT.oneW {P : Program} {fn : Func} {N t : Nat} {e : Env} {A : List Chunk} {av : AV} (hr : fn.results = #[.tmp t]) (h : Wv (ev e t) av) : ResT P fn N e A av := fun F I w tmps hI hs ht =>
  ⟨tmps.getD t undef, by simp [results, hr], h.rel (ht t)⟩
theorem ResT.none {P : Program} {fn : Func} {N : Nat} {e : Env} {A : List Chunk} (hr : fn.results = #[]) : ResT P fn N e A (.tup []) := fun F I w tmps hI hs ht =>
  ⟨.tuple #[], by simp [results, hr], .tup [] [] rfl fun j h => absurd h (Nat.not_lt_zero _)⟩
theorem ResT.twoW {P : Program} {fn : Func} {N t u : Nat} {e : Env} {A : List Chunk} {av bv : AV} (hr : fn.results = #[.tmp t, .tmp u]) (h : Wv (ev e t) av) (h2 : Wv (ev e u) bv) : ResT P fn N e A (.tup [av, bv]) := fun F I w tmps hI hs ht =>
  ⟨.tuple #[tmps.getD t undef, tmps.getD u undef], by simp [results, hr], .tup _ [_, _] rfl (RelL.cons (h.rel (ht t)) (RelL.cons (h2.rel (ht u)) RelL.nil)).2⟩

/-! ### What a deferred function's walk gives -/

theorem upon_mono' {P : Program} {o : Oper} {a : Act} {K K' : Act → World → Prop} {Q Q' : Exit → Act → World → Prop} {r : Result Next} (h : ∀ a w, K a w → K' a w) (hq : ∀ e a w, Q e a w → Q' e a w) (hh : o.upon P a K Q r) : o.upon P a K' Q' r := by
  cases r with
  | ok n w' =>
    cases n <;> simp only [Oper.upon] at hh ⊢ <;> first
      | exact h _ _ hh
      | exact hh.mono fun e w'' he => by cases e <;> first | exact h _ _ he | exact hq _ _ _ he | exact he.imp fun _ ⟨w, hx⟩ => ⟨w, hq _ _ _ hx⟩
      | exact hh.mono fun v w'' he => h _ _ he
      | exact hh
  | halt x w' => cases x <;> simp only [Oper.upon] at hh ⊢ <;> first | exact hq _ _ _ hh | exact hh

theorem wpOpsS_mono {P : Program} {ops : Array Oper} {R R' : Exit → Act → List Frame → World → Prop} (l : List Nat) (h : ∀ e a cs w, R e a cs w → R' e a cs w) :
    ∀ a cs w, wpOpsS P ops R l a cs w → wpOpsS P ops R' l a cs w := by
  induction l with
  | nil => exact fun a cs w hh => h _ _ _ _ hh
  | cons i rest ih =>
    intro a cs w hh
    simp only [wpOpsS] at hh ⊢
    cases ho : ops[i]? with
    | none => simp only [ho] at hh ⊢; exact ih a cs w hh
    | some o =>
      simp only [ho] at hh ⊢
      by_cases hw : Region.wanted o (yielded ops a.tmps) = true
      · simp only [hw, if_true] at hh ⊢
        generalize (execOp a.eval o).run P w = r at hh ⊢
        split at hh
        · split at hh
          · exact ih _ _ _ hh
          · exact ih _ _ _ hh
        · rename_i r' hnr
          exact upon_mono' (fun a w => ih a cs w) (fun e a w => h e a cs w) hh
      · simp only [hw, if_false, Bool.false_eq_true] at hh ⊢
        exact ih _ _ _ hh

/-- Operations of a deferred function's region that answer whatever lies below. -/
def ASR (P : Program) (N : Nat) (ops : Array Oper) (cs : List Frame) (Q : Post) (l : List Nat) (s : St) : Prop :=
  ∀ F I w a, Inv I (s.A ++ F) w → RelS N I w s a → wpOpsS P ops (fun e a' cs' w' => cs' = cs ∧ CQ N F I w Q e a' w') l a cs w

theorem ASR.nil {P : Program} {N : Nat} {ops : Array Oper} {cs : List Frame} {Q : Post} {s : St} (h : Q .normal s) : ASR P N ops cs Q [] s := fun F I w a hI hS =>
  ⟨rfl, I, s, Ext.refl _ _, hI, hS, h⟩

theorem ASR.op {P : Program} {N : Nat} {ops : Array Oper} {cs : List Frame} {Q : Post} {i : Nat} {rest : List Nat} {d : Nat} {op : Op} {T : TypeId} {pos : String} {after : Array Edge} {e : Env} {ds : List ADef} {A A' : List Chunk} {av : AV}
    (ho : ops[i]? = some ⟨some d, op, T, pos, after, none⟩) (hd : Nat.blt d N = true) (h : OpR P ⟨some d, op, T, pos, after, none⟩ e A av A') (k : ASR P N ops cs Q rest ⟨(d, av) :: e, ds, A'⟩) :
    ASR P N ops cs Q (i :: rest) ⟨e, ds, A⟩ := fun F I w a hI hS => by
  obtain ⟨n, v, w', I', hrun, hnv, E, hI', hv⟩ := h F I w a.eval hI hS.op
  have hk := k F I' w' (a.put (some d) v) hI' ((hS.mono E).put (Nat.le_of_ble_eq_true hd) hv A')
  have hk' := wpOpsS_mono (R' := fun e a' cs' w' => cs' = cs ∧ CQ N F I w Q e a' w') rest (fun e a' cs' w' ⟨h1, h2⟩ => ⟨h1, CQ.mono E (fun _ _ h => h) h2⟩) _ _ _ hk
  simp only [wpOpsS, ho, Region.wanted, if_true, hrun]
  rcases hnv with rfl | ⟨rfl, rfl⟩ <;> exact hk'
end Go.Av
