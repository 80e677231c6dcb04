/-
  Texts in one (only what ReplyWrites needs): AvDefer, AvFn, AvCard, AvPan, AvArr, AvStill, AvLoop, AvFor, PvSl, AvHd, AvSl, AvBig, AvTab, AvForP, AvSync, AvCl, LibSW, PvO, NumP, NumW, AnyP, AnyW, RepAP.
-/
import Derived.Test.YtimpbfniegimaaaDoorZReplyWrites1
import Derived.Recover
import Derived.ProofKit
import Derived.HandedShaped
import Derived.Shelf.Vars
import Derived.LaidLaws
import Derived.LaidMore
import Derived.Stop.Joined
import Derived.MakeChecks
import Derived.LoopNIn
import Derived.Laws.MakeOwn
import Derived.RangeFuncLeaves
import Derived.RangeFuncRecord
import Derived.Lib.FieldsP
import Derived.Laws.StructEq
import Derived.Lib.SlFresh
import Derived.Lib.SlParts
import Derived.Shelf.Bytes.SlSmallAll
import Derived.Shelf.Strings.FuncGrows
import Derived.Below
import Derived.Lib.LaidTab
import Derived.Lib.ItoaNum
import Derived.Lib.AppendIntMem
import Derived.Laws.LoneSync
import Derived.Lib.BytesEntry
import Derived.Test.YtimpbfniegimaaaDoorShelf
import Derived.Lib.IndexLaws
import Derived.Test.YtimpbfniegimaaaDoorChecked
import Derived.Lib.IndexAny
set_option linter.unusedVariables false
set_option linter.unusedSimpArgs false
namespace Go.Av
open Go.RowKit
def ResT (P : Program) (fn : Func) (N : Nat) (e : Env) (A : List Chunk) (av : AV) : Prop :=
  ∀ F I w tmps, Inv I (A ++ F) w → tmps.size = N → (∀ t, Rel I w (ev e t) (tmps.getD t undef)) → ∃ v, (results fn tmps).run P w = .ok v w ∧ Rel I w av v
def ADCalls (P : Program) (f : FuncId) (args : List AV) (A : List Chunk) (u : FrameMode) (R : AE → FrameMode → List Chunk → Prop) : Prop :=
  ∀ F I w vs, Inv I (A ++ F) w → RelL I w args vs → CallsD P f vs.toArray u w fun e u' w' => ∃ I' ae A', Ext I w I' w' ∧ Inv I' (A' ++ F) w' ∧ kW I' w' ae e ∧ R ae u' A'
def ALeaves (P : Program) (fn : Func) (N : Nat) (e : Env) (R : AE → List Chunk → Prop) : List ADef → FrameMode → List Chunk → Prop
  | [], .returning, A => ∃ av A', ResT P fn N e A av ∧ Sub A' A ∧ R (.ret av) A'
  | [], .panicking c, A => ∃ A', Sub A' A ∧ R (.pan c) A'
  | [], .run, _ => False
  | .call f cap args :: ds, u, A => u ≠ .run ∧ ∃ g A1 B, f = .func g ∧ (∀ as_ w, (callFunc g as_).run P w = .ok (.enter g as_) w) ∧ A.Perm (A1 ++ B) ∧
      ADCalls P g (args ++ cap) A1 u fun ae u' A' => match ae with
        | .ret _ => ALeaves P fn N e R ds (settle u') (A' ++ B)
        | .pan c => ALeaves P fn N e R ds (raised u' c) (A' ++ B)
  | .mark _ :: _, _, _ => False
section
variable {P : Program} {fn : Func} {N : Nat} {e : Env} {R : AE → List Chunk → Prop} {F : List Chunk} {I0 : Info} {w0 : World}
theorem ALeaves.sound : ∀ (ads : List ADef) (u : FrameMode) (A : List Chunk) (ds : List Deferred) (I : Info) (w : World) (tmps : Array Value),
    Ext I0 w0 I w → Inv I (A ++ F) w → tmps.size = N → (∀ t, Rel I w (ev e t) (tmps.getD t undef)) → RelDs I w ads ds → ALeaves P fn N e R ads u A →
    Leaves P fn tmps (fun en w' => ∃ I' ae A', Ext I0 w0 I' w' ∧ Inv I' (A' ++ F) w' ∧ kW I' w' ae en ∧ R ae A') ds u w := by
  intro ads
  induction ads with
  | nil =>
    intro u A ds I w tmps E hI hs ht hd h
    cases hd
    cases u with
    | run => exact h.elim
    | returning =>
      obtain ⟨av, A', hr, hsub, hR⟩ := h;obtain ⟨v, hrun, hv⟩ := hr F I w tmps hI hs ht;exact ⟨v, hrun, I, .ret av, A', E, hsub.inv hI, hv, hR⟩
    | panicking c =>
      obtain ⟨A', hsub, hR⟩ := h;exact ⟨I, .pan c, A', E, hsub.inv hI, rfl, hR⟩
  | cons ad ads ih =>
    intro u A ds I w tmps E hI hs ht hd h
    cases hd with
    | cons hd hds =>
      rename_i d ds
      cases ad with
      | mark o => exact h.elim
      | call f cap args =>
        obtain ⟨hu, g, A1, B, rfl, hf, hp, hc⟩ := h
        cases hd with
        | call f cap args xs ys hx hy =>
          have hI2 : Inv I (A1 ++ (B ++ F)) w := by rw [← List.append_assoc]; exact hI.perm (hp.append_right F)
          refine ⟨hu, .func g, xs.toArray, g, (ys ++ xs).toArray, rfl, ?_, ?_⟩
          · simp only [invoke]
            rw [show ys.toArray ++ xs.toArray = (ys ++ xs).toArray by simp]
            exact hf _ _
          · intro c cs hcm
            obtain ⟨en, u', w', fr, hq, h1, h2, h3⟩ := hc (B ++ F) I w _ hI2 (hy.append hx) c cs hcm;refine ⟨en, u', w', fr, ?_, h1, h2, h3⟩;obtain ⟨I', ae, A', E', hI', hre, hR⟩ := hq
            have hI3 : Inv I' ((A' ++ B) ++ F) w' := by rw [List.append_assoc]; exact hI'
            cases en with
            | returned v =>
              cases ae with
              | ret av => exact ih _ _ _ I' w' tmps (E.trans E') hI3 hs (fun t => (ht t).mono E') (hds.mono E') hR
              | pan c => exact hre.elim
            | panicked c =>
              cases ae with
              | ret av => exact hre.elim
              | pan c' => cases hre; exact ih _ _ _ I' w' tmps (E.trans E') hI3 hs (fun t => (ht t).mono E') (hds.mono E') hR
            | outgrown => cases ae <;> exact hre.elim
def RetPostD (P : Program) (fn : Func) (N : Nat) (K : List Nat) (R : AE → List Chunk → Prop) : cW
  | .normal, s | .ret, s => ALeaves P fn N s.env R s.ds .returning s.A
  | .panic c, s => ∃ e0 : Env, (∀ p ∈ e0, p.1 ∈ K) ∧ Env.le s.env e0 ∧ ALeaves P fn N e0 R s.ds (.panicking c) s.A
  | _, _ => False
theorem RetPostD.free {K : List Nat} {d : Nat} (hd : K.contains d = false) {c : List PanicEntry} {s : St} (h : RetPostD P fn N K R (.panic c) s) : RetPostD P fn N K R (.panic c) ⟨(d, .any) :: s.env, s.ds, s.A⟩ := by
  obtain ⟨e0, h1, h2, h3⟩ := h;refine ⟨e0, h1, fun p hp => ?_, h3⟩
  have hne : d ≠ p.1 := fun e => by
    have := h1 p hp
    rw [← e] at this
    simp at hd
    exact hd this
  have hb : Nat.beq d p.1 = false := by
    cases hb : Nat.beq d p.1 with
    | false => rfl
    | true => exact absurd (Nat.eq_of_beq_eq_true hb) hne
  simp only [ev, hb]
  exact h2 p hp
abbrev _root_.Go.Av.bG := @RetPostD.free
end
theorem kx {args : List AV} {vs : List Value} {fn : Func} {I : Info} {w : World} {A : List Chunk} (hv : RelL I w args vs) (hl' : args.length ≤ fn.ntmps) :
    RelS fn.ntmps I w ⟨gG 0 args, [], A⟩ { tmps := vs.toArray ++ Array.replicate (fn.ntmps - vs.toArray.size) undef, defers := [] } := by
  refine ⟨?_, fun t => ?_, .nil⟩
  · simp [hv.1]; omega
  · show Rel I w (ev (gG 0 args) t) _
    rw [mE]
    simp only [Nat.zero_le, if_true, Nat.sub_zero]
    by_cases ht : t < args.length
    · have := hv.2 t ht
      have hx : t < vs.length := by rw [hv.1]; exact ht
      rw [show args.getD t .any = args[t] by simp [List.getD, ht]]
      have e1 : (vs.toArray ++ Array.replicate (fn.ntmps - vs.toArray.size) undef).getD t undef = vs.getD t undef := by
        rw [Array.getD_eq_getD_getElem?, Array.getElem?_append_left (by simpa using hx)]
        simp [List.getD]
      rw [e1]; exact this
    · rw [show args.getD t .any = .any by simp [List.getD, List.getElem?_eq_none (Nat.le_of_not_lt ht)]]
      exact .any _
theorem lb {P : Program} {f : FuncId} {fn : Func} {c : Code} {args : List AV} {A : List Chunk} {R : AE → List Chunk → Prop} (K : List Nat) (hf : P.funcs[f]? = some fn) (hb : fn.body = some c) (hl : Nat.ble args.length fn.ntmps = true)
    (h : AW P none fn.ntmps c (RetPostD P fn fn.ntmps K R) ⟨gG 0 args, [], A⟩) : ACalls P f args A R := fun F I w vs hI hv => by
  refine calls_of_wp_defers hf hb ((wpIn_wide (n := 0)).1 (wpIn_mono (h F I w _ hI (kx hv (aa hl))) fun e a w' hq => ?_));obtain ⟨I', s', E, hI', hS', hq⟩ := hq
  cases e with
  | normal => exact ALeaves.sound s'.ds .returning s'.A a.defers I' w' a.tmps E hI' hS'.size hS'.env hS'.ds hq
  | ret => exact ALeaves.sound s'.ds .returning s'.A a.defers I' w' a.tmps E hI' hS'.size hS'.env hS'.ds hq
  | panic c =>
    obtain ⟨e0, _, hle, hq⟩ := hq;exact ALeaves.sound s'.ds (.panicking c) s'.A a.defers I' w' a.tmps E hI' hS'.size (fun t => (hle.ev t).rel (hS'.env t)) hS'.ds hq
  | exit id => exact hq.elim
  | goto l => exact hq.elim
  | outgrown => exact hq.elim
theorem ResT.oneW {P : Program} {fn : Func} {N t : Nat} {e : Env} {A : List Chunk} {av : AV} (hr : fn.results = #[.tmp t]) (h : Wv (ev e t) av) : ResT P fn N e A av := fun F I w tmps hI hs ht =>
  ⟨tmps.getD t undef, by simp [results, hr], h.rel (ht t)⟩
theorem oW {P : Program} {o : Oper} {a : Act} {K K' : Act → World → Prop} {Q Q' : Exit → Act → World → Prop} {r : Result Next} (h : ∀ a w, K a w → K' a w) (hq : ∀ e a w, Q e a w → Q' e a w) (hh : o.upon P a K Q r) : o.upon P a K' Q' r := by
  cases r with
  | ok n w' =>
    cases n <;> simp only [Oper.upon] at hh ⊢ <;> first
      | exact h _ _ hh
      | exact hh.mono fun e w'' he => by cases e <;> first | exact h _ _ he | exact hq _ _ _ he | exact he.imp fun _ ⟨w, hx⟩ => ⟨w, hq _ _ _ hx⟩
      | exact hh.mono fun v w'' he => h _ _ he
      | exact hh
  | halt x w' => cases x <;> simp only [Oper.upon] at hh ⊢ <;> first | exact hq _ _ _ hh | exact hh
theorem kz {P : Program} {ops : Array Oper} {R R' : Exit → Act → List Frame → World → Prop} (l : List Nat) (h : ∀ e a cs w, R e a cs w → R' e a cs w) :
    ∀ a cs w, wpOpsS P ops R l a cs w → wpOpsS P ops R' l a cs w := by
  induction l with
  | nil => exact fun a cs w hh => h _ _ _ _ hh
  | cons i rest ih =>
    intro a cs w hh
    simp only [wpOpsS] at hh ⊢
    cases ho : ops[i]? with
    | none => simp only [ho] at hh ⊢; exact ih a cs w hh
    | some o =>
      simp only [ho] at hh ⊢
      by_cases hw : Region.wanted o (yielded ops a.tmps) = true
      · simp only [hw, if_true] at hh ⊢
        generalize (execOp a.eval o).run P w = r at hh ⊢
        split at hh
        · split at hh
          · exact ih _ _ _ hh
          · exact ih _ _ _ hh
        · rename_i r' hnr
          exact oW (fun a w => ih a cs w) (fun e a w => h e a cs w) hh
      · simp only [hw, if_false, Bool.false_eq_true] at hh ⊢
        exact ih _ _ _ hh
def ASR (P : Program) (N : Nat) (ops : Array Oper) (cs : List Frame) (Q : cW) (l : List Nat) (s : St) : Prop :=
  ∀ F I w a, Inv I (s.A ++ F) w → RelS N I w s a → wpOpsS P ops (fun e a' cs' w' => cs' = cs ∧ CQ N F I w Q e a' w') l a cs w
theorem ASR.nil {P : Program} {N : Nat} {ops : Array Oper} {cs : List Frame} {Q : cW} {s : St} (h : Q .normal s) : ASR P N ops cs Q [] s := fun F I w a hI hS =>
  ⟨rfl, I, s, bE _ _, hI, hS, h⟩
theorem ASR.op {P : Program} {N : Nat} {ops : Array Oper} {cs : List Frame} {Q : cW} {i : Nat} {rest : List Nat} {d : Nat} {op : Op} {T : TypeId} {pos : String} {after : Array Edge} {e : Env} {ds : List ADef} {A A' : List Chunk} {av : AV}
    (ho : ops[i]? = some ⟨some d, op, T, pos, after, none⟩) (hd : Nat.blt d N = true) (h : OpR P ⟨some d, op, T, pos, after, none⟩ e A av A') (k : ASR P N ops cs Q rest ⟨(d, av) :: e, ds, A'⟩) :
    ASR P N ops cs Q (i :: rest) ⟨e, ds, A⟩ := fun F I w a hI hS => by
  obtain ⟨n, v, w', I', hrun, hnv, E, hI', hv⟩ := h F I w a.eval hI hS.op
  have hk := k F I' w' (a.put (some d) v) hI' ((hS.mono E).put (aa hd) hv A')
  have hk' := kz (R' := fun e a' cs' w' => cs' = cs ∧ CQ N F I w Q e a' w') rest (fun e a' cs' w' ⟨h1, h2⟩ => ⟨h1, cb E (fun _ _ h => h) h2⟩) _ _ _ hk
  simp only [wpOpsS, ho, Region.wanted, if_true, hrun]
  rcases hnv with rfl | ⟨rfl, rfl⟩ <;> exact hk'
end Go.Av
namespace Go.Av
open Go.RowKit
section
variable {P : Program} {ro : Option Nat} {N : Nat} {Q : cW} {ops : Array Oper}
theorem nA {I : Info} {w : World} {f : Fn} {as_ bs : List AV} {v : Value} (h : Rel I w (.fn f as_ bs) v) : ∃ xs ys : List Value, v = .func f xs.toArray ys.toArray ∧ RelL I w as_ xs ∧ RelL I w bs ys := by
  cases h with
  | fn _ _ _ xs ys hl hr hl' hr' => exact ⟨xs, ys, rfl, ⟨hl, hr⟩, ⟨hl', hr'⟩⟩
def FnV (a : AV) (f : Fn) (as_ bs : List AV) : Prop := a = .fn f as_ bs ∨ (a = .v (.func f #[] #[]) ∧ as_ = [] ∧ bs = [])
theorem rel_fnV {I : Info} {w : World} {a : AV} {f : Fn} {as_ bs : List AV} {v : Value} (h : FnV a f as_ bs) (hr : Rel I w a v) : ∃ xs ys : List Value, v = .func f xs.toArray ys.toArray ∧ RelL I w as_ xs ∧ RelL I w bs ys := by
  rcases h with rfl | ⟨rfl, rfl, rfl⟩
  · exact nA hr
  · exact ⟨[], [], bS hr, dj, dj⟩
theorem gH {P : Program} {ρ : Operand → Value} {f : Fn} {xs ys : Array Value} {x : Operand} {args : Array Operand} {argTypes : Array TypeId} {T : TypeId} {w : World} (h : ρ x = .func f xs ys) :
    (resolve ρ ⟨.value x, args, argTypes⟩ T).run P w = .ok { target := .fn f ys, args := xs ++ args.map ρ } w := by
  simp only [resolve, h, Deferred.ofValue, Sem.run_pure]
theorem AO.callF {rest : List Nat} {d : Nat} {x : Operand} {f : FuncId} {fs cs : List AV} {args : Array Operand} {argTypes : Array TypeId} {T : TypeId} {pos : String} {after : Array Edge} {g : Option (Nat × Bool)} {e : Env} {ds : List ADef} {A A1 : List Chunk} (B : List Chunk)
    {R : AE → List Chunk → Prop} {avs : List AV} (hd : Nat.blt d N = true) (hx : FnV (opv e x) (.func f) fs cs) (hf : ∀ args w, (callFunc f args).run P w = .ok (.enter f args) w) (ha : fs ++ args.toList.map (opv e) ++ cs = avs)
    (h : ACalls P f avs A1 R) (p : A.Perm (A1 ++ B)) (k : ∀ av A', R (.ret av) A' → AR P ro N ops Q rest ⟨(d, av) :: e, ds, A' ++ B⟩)
    (kp : ∀ c A', R (.pan c) A' → Q (.panic c) ⟨e, ds, A' ++ B⟩) :
    AO P ro N ops Q rest ⟨some d, .call ⟨.value x, args, argTypes⟩, T, pos, after, g⟩ ⟨e, ds, A⟩ := fun F I w a hI hS => by
  have hS' := hS
  obtain ⟨xs, ys, hv, hxs, hys⟩ := rel_fnV hx (hS'.op x)
  have hrl : RelL I w avs (xs ++ args.toList.map a.eval ++ ys) := by
    rw [← ha]; exact (hxs.append (RelL.map _ _ _ fun x _ => hS'.op x)).append hys
  refine ⟨fun _ _ => cj _, ?_⟩
  have he : (xs.toArray ++ args.map a.eval) ++ ys.toArray = (xs ++ args.toList.map a.eval ++ ys).toArray := by apply Array.ext'; simp
  have hex : (Oper.semAt (cl ro).round a.eval ⟨some d, .call ⟨.value x, args, argTypes⟩, T, pos, after, g⟩).run P w = .ok (.enter f (xs ++ args.toList.map a.eval ++ ys).toArray) w := by
    rw [Oper.semAt_eq _ _ _ (fun c h => by cases h)]
    simp only [execOp, Sem.run_bind, gH hv, Result.andThen_ok, invoke, he]
    exact hf _ _
  rw [hex]
  refine ⟨jb, AO.call.callsIn_wide'.2 ?_⟩
  have hI2 : Inv I (A1 ++ (B ++ F)) w := by rw [← List.append_assoc]; exact hI.perm (p.append_right F)
  refine (h (B ++ F) I w _ hI2 hrl).mono fun en w' ⟨I', ae, A', E, hI', hre, hR⟩ => ?_
  have hI3 : Inv I' ((A' ++ B) ++ F) w' := by rw [List.append_assoc]; exact hI'
  cases en with
  | returned v =>
    cases ae with
    | ret av =>
      have hk := k av A' hR F I' w' (a.put (some d) v) hI3 ((hS.mono E).put (aa hd) hre _)
      exact bN rest (fun _ _ _ => cb E fun _ _ h => h) _ _ hk
    | pan c => exact hre.elim
  | panicked c =>
    cases ae with
    | ret av => exact hre.elim
    | pan c' =>
      cases hre
      exact ⟨I', ⟨e, ds, A' ++ B⟩, E, hI3, ⟨hS.size, (hS.mono E).env, (hS.mono E).ds⟩, kp _ A' hR⟩
  | outgrown => cases ae <;> exact hre.elim
theorem AO.callFAt {rest : List Nat} {d : Nat} {x : Operand} {f : FuncId} {fs cs : List AV} {args : Array Operand} {argTypes : Array TypeId} {T : TypeId} {pos : String} {after : Array Edge} {g : Option (Nat × Bool)} {e : Env} {ds : List ADef} {A A1 B : List Chunk}
    {R : AE → List Chunk → Prop} {avs : List AV} (is : List Nat) (hd : Nat.blt d N = true) (hx : FnV (opv e x) (.func f) fs cs) (hf : ∀ args w, (callFunc f args).run P w = .ok (.enter f args) w) (ha : fs ++ args.toList.map (opv e) ++ cs = avs)
    (h : ACalls P f avs A1 R) (p : gA A is = some (A1, B)) (hr : ∀ c A', ¬ R (.pan c) A') (k : ∀ av A', R (.ret av) A' → AR P ro N ops Q rest ⟨(d, av) :: e, ds, A' ++ B⟩) :
    AO P ro N ops Q rest ⟨some d, .call ⟨.value x, args, argTypes⟩, T, pos, after, g⟩ ⟨e, ds, A⟩ :=
  AO.callF B hd hx hf ha h (cm is _ _ _ p) k (fun c A' h => (hr c A' h).elim)
theorem AO.defer {rest : List Nat} {x : Operand} {f : Fn} {fs cs : List AV} {args : Array Operand} {argTypes : Array TypeId} {T : TypeId} {pos : String} {after : Array Edge} {g : Option (Nat × Bool)} {e : Env} {ds : List ADef} {A : List Chunk}
    (hx : opv e x = .fn f fs cs) (k : AR P none N ops Q rest ⟨e, .call f cs (fs ++ args.toList.map (opv e)) :: ds, A⟩) :
    AO P none N ops Q rest ⟨none, .defer ⟨.value x, args, argTypes⟩, T, pos, after, g⟩ ⟨e, ds, A⟩ := fun F I w a hI hS => by
  have hS' := hS
  obtain ⟨xs, ys, hv, hxs, hys⟩ := nA (hx ▸ hS'.op x);refine ⟨fun _ _ => cj _, ?_⟩
  have hex : (Oper.semAt (cl none).round a.eval ⟨none, .defer ⟨.value x, args, argTypes⟩, T, pos, after, g⟩).run P w = .ok (.defer { target := .fn f ys.toArray, args := (xs ++ args.toList.map a.eval).toArray }) w := by
    rw [show (cl none).round = none from rfl, Oper.semAt_none]
    simp only [execOp, Sem.run_bind, gH hv, Result.andThen_ok, Sem.run_pure]
    congr 2
    congr 1
    apply Array.ext'; simp
  rw [hex]
  exact k F I w _ hI ⟨hS.size, hS.env, .cons (.call f cs _ ys _ hys (hxs.append (RelL.map _ _ _ fun x _ => hS'.op x))) hS.ds⟩
mutual
def conc : AV → Option Value
  | .v x => some x
  | .ifc t a => (conc a).map (.iface t)
  | .agg l => (concL l).map fun l => .agg l.toArray
  | _ => none
def concL : List AV → Option (List Value)
  | [] => some []
  | a :: l => match conc a, concL l with
    | some x, some r => some (x :: r)
    | _, _ => none
end
mutual
theorem conc_rel {I : Info} {w : World} : ∀ (a : AV) (x v : Value), conc a = some x → Rel I w a v → v = x
  | .v y, x, v, h, hr => by cases h; cases hr; rfl
  | .ifc t a, x, v, h, hr => by
    simp only [conc, Option.map_eq_some_iff] at h
    obtain ⟨y, hy, rfl⟩ := h
    cases hr with
    | ifc _ _ z hz => rw [conc_rel a y z hy hz]
  | .agg l, x, v, h, hr => by
    simp only [conc, Option.map_eq_some_iff] at h
    obtain ⟨y, hy, rfl⟩ := h
    cases hr with
    | agg _ xs hl hr => rw [concL_rel l y xs hy ⟨hl, hr⟩]
  | .sl .., _, _, h, _ | .cp .., _, _, h, _ | .pt .., _, _, h, _ | .vw .., _, _, h, _ | .tup .., _, _, h, _ | .fn .., _, _, h, _ | .any, _, _, h, _ | .anyk .., _, _, h, _ | .anyi, _, _, h, _ | .mp .., _, _, h, _ | .rp .., _, _, h, _ | .mk .., _, _, h, _ | .yl .., _, _, h, _ => by simp [conc] at h
theorem concL_rel {I : Info} {w : World} : ∀ (l : List AV) (xs vs : List Value), concL l = some xs → RelL I w l vs → vs = xs
  | [], xs, vs, h, hr => by simp only [concL, Option.some.injEq] at h; rw [hr.out_nil, h]
  | a :: l, xs, vs, h, hr => by
    obtain ⟨v, vs', rfl, h1, h2⟩ := hr.out_cons
    simp only [concL] at h
    split at h
    · rename_i x r hx hrr
      cases h
      rw [conc_rel a x v hx h1, concL_rel l r vs' hrr h2]
    · cases h
end
theorem AO.panic {rest : List Nat} {d : Option Nat} {x : Operand} {t : TypeId} {v : Value} {T : TypeId} {pos : String} {after : Array Edge} {g : Option (Nat × Bool)} {e : Env} {ds : List ADef} {A : List Chunk}
    (hx : conc (opv e x) = some (.iface t v)) (k : Q (.panic [{ v := .iface t v, recovered := false }]) ⟨e, ds, A⟩) :
    AO P ro N ops Q rest ⟨d, .panic x, T, pos, after, g⟩ ⟨e, ds, A⟩ := fun F I w a hI hS => by
  have hv := conc_rel _ _ _ hx (hS.op x)
  refine ⟨fun _ _ => cj _, ?_⟩
  have hex : (Oper.semAt (cl ro).round a.eval ⟨d, .panic x, T, pos, after, g⟩).run P w = .halt (.panic (.iface t v)) w := by
    rw [Oper.semAt_eq _ _ _ (fun c h => by cases h)]
    simp only [execOp, hv, Instr.panic, Sem.run_bind]
    rfl
  rw [hex]
  exact ⟨I, ⟨e, ds, A⟩, bE _ _, hI, hS, k⟩
end
end Go.Av
namespace Go.Av
open Go.RowKit
section
variable {H : Type} {enc : TypeId × Value → H}
theorem returns_and_shaped {a : Assume} {C : Checked} {os : Os} {f : FuncId} {fn : Func} {s : ChangeSpec} {conds : List PathCond} {apart fresh handsOn again : Bool} {X : World → Array Value → Prop}
    (hX : ∀ (w w' : World) (args : Array Value), w.heap = w'.heap → X w args → X w' args)
    (own : ownKnob C.prog.godebug = none) (started : os.Started) (noInit : C.prog.inits.idxOf? f = none) (hfn : C.prog.funcs[f]? = some fn)
    (witness : ∃ (w : World) (tape : Tape) (i : Input), w.os = os ∧ (w.forCall tape i).Shaped C.prog ∧ i.vars = [] ∧ Input.okWide C.prog (w.forCall tape i) .any w.heap.size f i ∧
      ((s.pre enc C.prog fn conds apart (w.forCall tape i).memory i.args ∧ X (w.forCall tape i).memory i.args) ∧ sizedMet enc C.prog fn (OpenSpec.ofChange s) apart (w.forCall tape i).memory i.args) ∧ a.holds C.prog (lone (Frame.enter C.prog f i.args .normal) [] (w.forCall tape i)))
    (contract : ∀ (W : World) (base : Nat) (args : Array Value) (ds gs : List (DataW H)) (before : List MemPlace),
      (∀ (j : Nat) t v, fn.params[j]? = some t → args[j]? = some v → Value.okWide C.prog W .any base t v) →
      DataW.Whole enc C.prog fn.params.toList s.vars apart W args.toList ds gs before →
      W.ShapedOpen C.prog → X W args →
      Calls C.prog f args W fun e W' => ∃ v, e = .returned v ∧ s.post enc C.prog fn apart fresh handsOn again W args v W') :
    ReturnsInHanded a C os f .any (fun w args => (s.pre enc C.prog fn conds apart w args ∧ X w args) ∧ sizedMet enc C.prog fn (OpenSpec.ofChange s) apart w args) (s.post enc C.prog fn apart fresh handsOn again) := by
  refine returnsInHanded_of_calls own started noInit witness ?_;intro w tape i _ hsh _ hok hpre hholds;obtain ⟨_, _, _, fn', hfn', _, _, _, _, hval⟩ := hok
  have e : fn' = fn := ak (hfn'.symm.trans hfn)
  subst e;obtain ⟨⟨⟨ds, gs, before, hw, hc⟩, hx⟩, hz⟩ := hpre
  have hw' := DataW.Whole.of_heap (w' := w.forCall tape i) (by rfl) hw
  refine (contract (w.forCall tape i) w.heap.size i.args ds gs before hval hw' hsh (hX _ _ _ (by rfl) hx)).mono fun e W' ⟨v, he, hp⟩ => ?_
  subst he;exact ChangeSpec.post_blind hp
end
theorem oG {P : Program} {w : World} {n : String} {d : DataW Unit} : ∀ {l : List (String × DataW Unit)} {ps : List MemPlace}, DataW.LaidVars P w l ps → (n, d) ∈ l →
    ∃ g t cs fuel p, P.globalNamed n = some g ∧ (P.globals[g]?).map (·.type) = some t ∧ w.var? P n = some cs ∧ DataW.trod (fun _ => ()) P w 0 (fun _ => true) false fuel t cs.toList = some (d, p)
  | [], _, _, hm => by cases hm
  | (n', d') :: r, ps, h, hm => by
    obtain ⟨g, t, cs, fuel, p, q, h1, h2, h3, h4, h5, _⟩ := h
    rcases List.mem_cons.1 hm with hm | hm
    · cases hm; exact ⟨g, t, cs, fuel, p, h1, h2, h3, h4⟩
    · exact oG h5 hm
theorem mm {H : Type} {tok : TypeId × Value → H} {P : Program} {w : World} {base : Nat} {fits : Nat → Bool} {b : Bool} {fuel t : Nat} {vs : List Value} {r : DataW H × List MemPlace} {ms : Array (String × TypeId)} (hT : P.underlying t = some (.interface ms))
    (h : DataW.trod tok P w base fits b fuel t vs = some r) : vs = [.nilIface] ∨ ∃ u v, vs = [.iface u v] := by
  cases fuel with
  | zero => simp [DataW.trod] at h
  | succ n =>
    unfold DataW.trod at h
    rw [hT] at h
    split at h <;> first | (exact .inl rfl) | (exact .inr ⟨_, _, rfl⟩) | simp_all
theorem laid_iface {P : Program} {w : World} {l : List (String × DataW Unit)} {n : String} {d : DataW Unit} {g t : Nat} {ms : Array (String × TypeId)} (h : laidMet P l w) (hm : (n, d) ∈ l) (hg : P.globalNamed n = some g) (ht : (P.globals[g]?).map (·.type) = some t) (hT : P.underlying t = some (.interface ms)) : ∃ v, w.cell? ⟨g, 0, none⟩ = some v ∧ (v = .nilIface ∨ ∃ u y, v = .iface u y) := by
  obtain ⟨ps, hl, _, _⟩ := h;obtain ⟨g', t', cs, fuel, p, h1, h2, h3, h4⟩ := oG hl hm;obtain rfl := ak (hg.symm.trans h1);obtain rfl := ak (ht.symm.trans h2)
  have hc := World.var?_cell hg h3 0
  rcases mm hT h4 with h5 | ⟨u, v, h5⟩
  · exact ⟨.nilIface, by rw [hc]; have := congrArg (·[0]?) h5; simpa using this, .inl rfl⟩
  · exact ⟨.iface u v, by rw [hc]; have := congrArg (·[0]?) h5; simpa using this, .inr ⟨u, v, rfl⟩⟩
theorem rel_var {w : World} {g : Nat} {v : Value} {c : AV} (h : w.cell? ⟨g, 0, none⟩ = some v) (hr : Rel (Info.start w) w c v) : Rel (Info.start w) w (.cp [c]) (.pointer (some ⟨g, 0, none⟩)) := by
  refine .cp [c] g 0 (fun _ => v) (lD (pG h).1) (fun j hj => ?_) (fun j hj => ?_)
  · have : j = 0 := by simpa using hj
    subst this; exact h
  · have : j = 0 := by simpa using hj
    subst this; exact hr
theorem rel_anyi {I : Info} {w : World} {v : Value} (h : v = .nilIface ∨ ∃ u y, v = .iface u y) : Rel I w .anyi v := by
  rcases h with rfl | ⟨u, y, rfl⟩
  · exact .anyi0
  · exact .anyi1 u y
end Go.Av
namespace Go.Av
open Go.RowKit Go.Pv
def PanOr {ρ : Type} (ok : ρ → AE → List Chunk → Prop) (ch : Int → List PanicEntry) : Res ρ → AE → List Chunk → Prop
  | .ok r => ok r
  | .pan e => fun ae A' => ae = .pan (ch e) ∧ A' = []
def kU (v : Value) : List PanicEntry := [{ v := v, recovered := false }]
section
variable {P : Program} {ro : Option Nat} {N : Nat} {Q : cW} {ops : Array Oper}
theorem AO.callPan {rest : List Nat} {d : Nat} {f : FuncId} {args : Array Operand} {argTypes : Array TypeId} {T : TypeId} {pos : String} {after : Array Edge} {g : Option (Nat × Bool)} {e : Env} {ds : List ADef} {A A1 B : List Chunk} {c : List PanicEntry} {avs : List AV} (is : List Nat)
    (hd : Nat.blt d N = true) (hf : ∀ args w, (callFunc f args).run P w = .ok (.enter f args) w) (ha : args.toList.map (opv e) = avs)
    (h : ACalls P f avs A1 (fun ae A' => ae = .pan c ∧ A' = [])) (p : gA A is = some (A1, B)) (k : Q (.panic c) ⟨e, ds, B⟩) :
    AO P ro N ops Q rest ⟨some d, .call ⟨.value (.func f), args, argTypes⟩, T, pos, after, g⟩ ⟨e, ds, A⟩ :=
  AO.call B hd hf ha h (cm is _ _ _ p) (fun av A' ⟨h1, _⟩ => by cases h1) (fun c' A' ⟨h1, h2⟩ => by cases h1; subst h2; exact k)
theorem AO.panicT {rest : List Nat} {d : Option Nat} {x : Operand} {c : List PanicEntry} {t : TypeId} {v : Value} {T : TypeId} {pos : String} {after : Array Edge} {g : Option (Nat × Bool)} {e : Env} {ds : List ADef} {A : List Chunk}
    (hx : conc (opv e x) = some (.iface t v)) (hc : kU (.iface t v) = c) (k : Q (.panic c) ⟨e, ds, A⟩) :
    AO P ro N ops Q rest ⟨d, .panic x, T, pos, after, g⟩ ⟨e, ds, A⟩ := AO.panic hx (by subst hc; exact k)
mutual
theorem conc_mk {I : Info} {w : World} : ∀ (a : AV) (x : Value), conc a = some x → Rel I w a x
  | .v y, x, h => by cases h; exact .v _
  | .ifc t a, x, h => by
    simp only [conc, Option.map_eq_some_iff] at h
    obtain ⟨y, hy, rfl⟩ := h;exact .ifc _ _ _ (conc_mk a y hy)
  | .agg l, x, h => by
    simp only [conc, Option.map_eq_some_iff] at h
    obtain ⟨y, hy, rfl⟩ := h
    have := concL_mk (I := I) (w := w) l y hy
    exact .agg _ _ this.1 this.2
  | .sl .., _, h | .cp .., _, h | .pt .., _, h | .vw .., _, h | .tup .., _, h | .fn .., _, h | .any, _, h | .anyk .., _, h | .anyi, _, h | .mp .., _, h | .rp .., _, h | .mk .., _, h | .yl .., _, h => by simp [conc] at h
theorem concL_mk {I : Info} {w : World} : ∀ (l : List AV) (xs : List Value), concL l = some xs → RelL I w l xs
  | [], xs, h => by simp only [concL, Option.some.injEq] at h; subst h; exact dj
  | a :: l, xs, h => by
    simp only [concL] at h
    split at h
    · rename_i x r hx hrr
      cases h
      exact cX (conc_mk a x hx) (concL_mk l r hrr)
    · cases h
end
variable {e : Env} {d : Option Nat} {T : TypeId} {pos : String} {after : Array Edge} {g : Option (Nat × Bool)} {x : Operand}
theorem kY {t t0 : TypeId} {a : AV} {D : TypeDesc} (hT : P.underlying t = some D) (hD : (match D with | .interface _ => true | _ => false) = false) (hx : opv e x = .ifc t a) :
    OpS P ⟨d, .typeAssert x t0 t true, T, pos, after, g⟩ e (.tup [a, B true]) := fun I w ρ hρ => by
  have h := hx ▸ hρ x
  generalize e1 : ρ x = v at h
  cases h with
  | ifc _ _ y hy =>
    refine ⟨.tuple #[y, .bool true], .tup _ [y, .bool true] rfl (cX hy (cX (.v _) dj)).2, fun w' _ _ => ?_⟩
    simp only [execOp, e1, Instr.typeAssert, Sem.run_bind, run_underlying hT, Result.andThen_ok]
    cases D <;> first | (cases hD; done) | simp only [if_true, Sem.run_pure, Result.andThen_ok, Sem.run_bind]
def CellV (P : Program) (e : Env) (A : List Chunk) (a t : Nat) (av : AV) : Prop := ∀ F I w v, Inv I (A ++ F) w → Rel I w (ev e a) v → ∃ p x, (asAddr v).run P w = .ok p w ∧ (loadVar t p).run P w = .ok x w ∧ Rel I w av x
theorem CellV.one {e : Env} {A : List Chunk} {a t o off : Nat} (i : Nat) {cs : List AV} {c : AV} {D : TypeDesc} (hT : P.underlying t = some D) (hD : fj D = false) (hx : ev e a = .pt o off) (hA : A[i]? = some (.obj o cs)) (hc : cs[off]? = some c) : CellV P e A a t c := fun F I w v hI hv => by
  rw [hx] at hv
  cases hv with
  | pt o off b ho =>
    obtain ⟨b', arr, ho', he, hca, hrl⟩ := hI.holds _ (km hA F)
    rw [ho] at ho'; cases ho'
    have hlt : off < cs.length := (List.getElem?_eq_some_iff.1 hc).1
    have hlt' : off < arr.length := by rw [hrl.1]; exact hlt
    have h0 : w.cell? ⟨b, off, none⟩ = some (arr.getD off undef) := by rw [hca.cell]; simp [List.getD, hlt']
    have hr := hrl.2 off hlt
    rw [(List.getElem?_eq_some_iff.1 hc).2] at hr
    refine ⟨⟨b, off, none⟩, _, rfl, ?_, hr⟩
    simp only [loadVar, Sem.run_bind, fu hT hD, Result.andThen_ok, Bool.false_eq_true, if_false, run_load, h0]
theorem CellV.agg {e : Env} {A : List Chunk} {a t o off n : Nat} (i : Nat) {cs : List AV} {D : TypeDesc} (hT : P.underlying t = some D) (hD : fj D = true) (hsz : bD P t = some n) (hx : ev e a = .pt o off) (hA : A[i]? = some (.obj o cs)) (hn : off + n ≤ cs.length) : CellV P e A a t (.agg ((cs.drop off).take n)) := fun F I w v hI hv => by
  rw [hx] at hv
  cases hv with
  | pt o off b ho =>
    obtain ⟨b', arr, ho', he, hca, hrl⟩ := hI.holds _ (km hA F)
    rw [ho] at ho'; cases ho'
    have hl : (loadCells ⟨b, off, none⟩ n).run P w = .ok ((List.range n).map fun j => arr.getD (off + j) undef).toArray w := run_loadCells w _ n _ (fun j hj => by
      rw [dh, hca.cell, aw (by rw [hrl.1]; omega)]
      simp [List.getD, show off + j < arr.length by rw [hrl.1]; omega])
    refine ⟨⟨b, off, none⟩, _, rfl, ?_, .agg _ ((List.range n).map fun j => arr.getD (off + j) undef) (by simp; omega) (fun j hj => ?_)⟩
    · simp only [loadVar, fu hT hD, if_true, bH hsz, hl, Sem.run_bind, Sem.run_pure, Result.andThen_ok]
    · have hj' : j < n := by simp at hj; omega
      have h1 := hrl.2 (off + j) (by omega)
      simp only [List.getElem_take, List.getElem_drop, List.getD, List.getElem?_map, List.getElem?_range hj', Option.map_some, Option.getD_some]
      simpa [List.getD] using h1
theorem ej {fn : Func} {e : Env} {ds : List ADef} {A : List Chunk} {av : AV} (h : ResT P fn N e A av) : ResV P fn N ⟨e, ds, A⟩ av := fun F I w a hI hS => h F I w a.tmps hI hS.size hS.env
def Recovers (u : FrameMode) (v : Value) (u' : FrameMode) : Prop := (∃ older, u = .panicking ({ v := v, recovered := false } :: older) ∧ u' = .panicking ({ v := v, recovered := true } :: older)) ∨ (u = .returning ∧ v = .nilIface ∧ u' = .returning)
theorem Recovers.pan {v : Value} : Recovers (.panicking (kU v)) v (.panicking [{ v := v, recovered := true }]) := .inl ⟨[], rfl, rfl⟩
theorem Recovers.ret : Recovers .returning .nilIface .returning := .inr ⟨rfl, rfl, rfl⟩
end
end Go.Av
namespace Go.Av
open Go.RowKit Go.Pv
section
variable {α : Type} {E : Enc α}
end
section
variable {P : Program} {e : Env} {d : Option Nat} {T T2 : TypeId} {pos : String} {after : Array Edge} {g : Option (Nat × Bool)} {x y z : Operand} {av : AV} {A : List Chunk}
theorem fQ {f : Fn} {first captured : Array Operand} {as_ bs : List AV} (h1 : first.toList.map (opv e) = as_) (h2 : captured.toList.map (opv e) = bs) : OpS P ⟨d, .makeFunc f first captured, T2, pos, after, g⟩ e (.fn f as_ bs) := fun I w ρ hρ => by
  have r1 : RelL I w as_ (first.toList.map ρ) := by rw [← h1]; exact RelL.map _ _ _ fun x _ => hρ x
  have r2 : RelL I w bs (captured.toList.map ρ) := by rw [← h2]; exact RelL.map _ _ _ fun x _ => hρ x
  refine ⟨.func f (first.map ρ) (captured.map ρ), ?_, fun w' _ _ => rfl⟩
  have := Rel.fn (I := I) (w := w) f as_ bs _ _ r1.1 r1.2 r2.1 r2.2
  rwa [show (first.toList.map ρ).toArray = first.map ρ by apply Array.ext'; simp, show (captured.toList.map ρ).toArray = captured.map ρ by apply Array.ext'; simp] at this
theorem js {o off len El : Nat} {q : IntKind} {i : Int} (hT : P.underlying T = some (.array len El)) (hsz : bD P El = some 1) (hx : opv e x = .pt o off) (hy : opv e y = .v (.int q i)) (hg : bQ i len = true) :
    OpS P ⟨d, .indexAddr T x y, T2, pos, after, g⟩ e (.pt o (off + i.toNat)) := by
  obtain ⟨h1, h2⟩ := nC hg
  have := cQ (P := P) (d := d) (pos := pos) (after := after) (g := g) (T2 := T2) (Ar := 0) (m := i.toNat) hT hsz hx hy (Int.toNat_of_nonneg h1).symm (by omega)
  simpa using this
theorem lH {f g : Nat → Option (Nat × Nat)} : ∀ (parts : List (Nat × Value)) (cells : Array Value), (∀ p ∈ parts, f p.1 = g p.1) → Instr.fill f cells parts = Instr.fill g cells parts
  | [], _, _ => rfl
  | p :: r, cells, h => by
    have h1 := h p (List.mem_cons_self ..)
    have h2 : ∀ c, Instr.fill f c r = Instr.fill g c r := fun c => lH r c fun q hq => h q (List.mem_cons_of_mem _ hq)
    obtain ⟨i, x⟩ := p
    simp only [Instr.fill, h1, h2]
theorem eO {parts : Array (Nat × Operand)} {zs : List Value} {cs : List AV} {len El k : Nat} (hT : P.underlying T = some (.array len El)) (hsz : bD P El = some k) (hz : zeroCells P T = some zs) (hb : (parts.toList.all fun p => Nat.blt p.1 len) = true)
    (hok : li e parts.toList = true) (hf : ld ((List.range len).map fun i => (i * k, k)) (zs.map .v) (parts.toList.map fun p => (p.1, opv e p.2)) = some cs) : OpS P ⟨d, .build T parts, T2, pos, after, g⟩ e (.agg cs) := fun I w ρ hρ => by
  have hok' : ∀ p ∈ parts.toList, br (opv e p.2) = true ∨ ∃ cs, opv e p.2 = .agg cs := fun p hp => by
    have h := List.all_eq_true.1 hok p hp
    cases hc : br (opv e p.2) with
    | true => exact .inl rfl
    | false => rw [hc, Bool.false_or] at h; exact .inr (nu h)
  have hb' : ∀ p ∈ parts.toList, p.1 < len := fun p hp => aa (List.all_eq_true.1 hb p hp)
  have hz0 : RelL I w (zs.map .v) zs := gV _
  obtain ⟨ys, hy, hyr⟩ := ke (I := I) (w := w) ((List.range len).map fun i => (i * k, k)) _ (parts.toList.map fun p => (p.1, ρ p.2)) _ _ cs (by simp) (fun j hj => by
    have hj' : j < parts.toList.length := by simpa using hj
    simp only [List.getElem_map, List.map_map, List.getD, List.getElem?_map, aw hj', Option.map_some, Option.getD_some, Function.comp]
    exact gS (hρ _) (hok' _ (List.getElem_mem hj'))) hz0 hf
  refine ⟨.agg ys.toArray, .agg cs ys hyr.1 hyr.2, fun w' _ _ => ?_⟩;obtain ⟨z, hzrun, hzc⟩ := jj hz w'
  have hpm : (parts.map fun (i, x) => (i, ρ x)).toList = parts.toList.map fun p => (p.1, ρ p.2) := by simp
  have hza : z.cells = zs.toArray := by rw [← hzc]
  have hy2 : Instr.fill (fun i => some (i * k, k)) zs.toArray (parts.toList.map fun p => (p.1, ρ p.2)) = some ys.toArray := by
    rw [← hy]
    refine lH _ _ fun p hp => ?_
    obtain ⟨q, hq, rfl⟩ := List.mem_map.1 hp
    have := hb' q hq
    simp [this]
  simp only [execOp, Instr.build, Sem.run_bind, hzrun, Result.andThen_ok, run_underlying hT, bH hsz, hpm, hza, hy2, Sem.run_pure]
end
end Go.Av
namespace Go.Av
open Go.RowKit Go.Pv
section
variable {P : Program} {e : Env} {d : Option Nat} {T T2 : TypeId} {pos : String} {after : Array Edge} {g : Option (Nat × Bool)} {x y z : Operand} {av : AV} {A : List Chunk}
theorem dN {a : AV} (hx : opv e x = a) (hc : br a = true ∨ ∃ cs, a = .agg cs) : OpR P ⟨d, .box T x, T2, pos, after, g⟩ e A (.cp (cellsOf a)) A := fun F I w ρ hI hρ => by
  have hv := hx ▸ hρ x
  have hrl := gS hv hc
  have X := hI.new_still (.cells (ρ x).cells.toList.toArray T)
  refine ⟨_, .pointer (some ⟨w.heap.size, 0, none⟩), _, _, ?_, .inl rfl, X, hI.alloc_still _, ?_⟩
  · simp only [execOp, Instr.box, newVar, newRow, Sem.run_bind, Sem.run_pure, run_newObj_alloc, Result.andThen_ok]
  · refine .cp _ w.heap.size 0 (fun j => (ρ x).cells.toList.getD j undef) (fun m hm => by simp [Info.still] at hm) (fun j hj => ?_) (fun j hj => (hrl.2 j hj).mono X)
    have hj' : j < (ρ x).cells.toList.length := by rw [hrl.1]; exact hj
    have hh := bC w (.cells (ρ x).cells.toList.toArray T)
    simp only [World.cell?, hh, Nat.zero_add]
    have hj2 : j < (ρ x).cells.size := by simpa using hj'
    simp [List.getD, hj2]
theorem Inv.freezeCp {I : Info} {A : List Chunk} {w : World} {o : Nat} {cs : List AV} (h : Inv I (.obj o cs :: A) w) : ∃ I', Ext I w I' w ∧ Inv I' A w ∧ ∀ v, Rel I w (.pt o 0) v → Rel I' w (.cp cs) v := by
  obtain ⟨b, arr, ho, he, hca, hrl⟩ := h.holds _ (List.mem_cons_self ..)
  have hbl : (Chunk.obj o cs).blk I = some b := ho
  have E : Ext I w (I.stillN b cs.length) w := by
    refine ⟨rfl, rfl, rfl, Nat.le_refl _, fun b' hb' => ⟨rfl, ?_⟩, fun _ _ _ => rfl, fun b' m hs => ?_, fun _ _ x => x, fun _ _ x => x, fun _ _ x => x⟩
    · simp only [Info.stillN]
      rw [if_neg]
      · exact hb'
      · rintro rfl; rw [he] at hb'; cases hb'
    · intro q hq
      simp only [Info.stillN] at hq
      by_cases e : b' = b
      · subst e
        have := hs 0 he
        omega
      · rw [if_neg e] at hq; exact hs q hq
  refine ⟨I.stillN b cs.length, E, ?_, ?_⟩
  · have hA : Inv I A w := h.sub (List.sublist_cons_self ..)
    refine hA.keep E (fun c hc b' hb' => ⟨rfl, ?_⟩) (fun b' hb' => ?_) h.ids
    · simp only [Info.stillN]; rw [if_neg (h.other hbl c hc b' hb')]
    · have hlt := hca.lt
      simp only [Info.stillN]; rw [if_neg (by omega)]; exact h.fresh b' hb'
  · intro v hv
    cases hv with
    | pt o off b' ho' =>
      rw [ho] at ho'; cases ho'
      have hlen : arr.length = cs.length := hrl.1
      refine .cp _ b 0 (fun j => arr.getD j undef) ?_ ?_ ?_
      · intro q hq
        simp only [Info.stillN, if_true, Option.some.injEq] at hq
        omega
      · intro j hj
        rw [Nat.zero_add, hca.cell, List.getD, aw (by omega)]; rfl
      · intro j hj
        exact (hrl.2 j hj).mono E
end
section
variable {P : Program} {ro : Option Nat} {N : Nat} {Q : cW} {ops : Array Oper} {rest : List Nat} {e : Env} {ds : List ADef} {A : List Chunk}
theorem AR.freezeCp {o : Nat} {cs : List AV} (t i : Nat) (ht : ev e t = .pt o 0) (hA : A[i]? = some (.obj o cs)) (h : AR P ro N ops Q rest ⟨(t, .cp cs) :: e, ds, A.eraseIdx i⟩) : AR P ro N ops Q rest ⟨e, ds, A⟩ := fun F I w a hI hS => by
  have hp := ja A i _ hA
  have hI2 : Inv I (.obj o cs :: (A.eraseIdx i ++ F)) w := hI.perm (hp.append_right F)
  obtain ⟨I', X, hI', hrel⟩ := hI2.freezeCp
  have hS' := hS.mono X
  refine bN rest (fun _ _ _ => cb X fun _ _ h => h) _ _ (h F I' w a hI' ⟨hS.size, fun j => ?_, hS'.ds⟩)
  have hj := hS'.env j
  simp only [ev]
  cases hb : Nat.beq t j with
  | false => exact hj
  | true =>
    have := Nat.eq_of_beq_eq_true hb
    subst this
    have hj0 := hS.env t
    simp only [ht] at hj0
    exact hrel _ hj0
end
section
variable {P : Program} {e : Env} {d : Option Nat} {T T2 : TypeId} {pos : String} {after : Array Edge} {g : Option (Nat × Bool)} {x y z : Operand} {av : AV} {A : List Chunk}
inductive WvL : List AV → List AV → Prop where
  | nil : WvL [] []
  | cons {a b : AV} {l m : List AV} (h : Wv a b) (g : WvL l m) : WvL (a :: l) (b :: m)
theorem WvL.refl : ∀ l, WvL l l
  | [] => .nil
  | a :: l => .cons (.refl a) (WvL.refl l)
theorem WvL.rel {I : Info} {w : World} : ∀ {l m : List AV} {xs : List Value}, WvL l m → RelL I w l xs → RelL I w m xs
  | _, _, _, .nil, h => h
  | _, _, _, .cons h g, hr => by
    obtain ⟨x, xs, rfl, h1, h2⟩ := hr.out_cons;exact cX (h.rel h1) (g.rel h2)
theorem CellV.aggW {a t : Nat} {cs vs : List AV} (h : CellV P e A a t (.agg cs)) (hw : WvL cs vs) : CellV P e A a t (.agg vs) := fun F I w v hI hv => by
  obtain ⟨p, x, h1, h2, h3⟩ := h F I w v hI hv
  cases h3 with
  | agg _ xs hl hr =>
    have := hw.rel ⟨hl, hr⟩
    exact ⟨p, _, h1, h2, .agg _ xs this.1 this.2⟩
theorem CellV.oneW {a t : Nat} {c v : AV} (h : CellV P e A a t c) (hw : Wv c v) : CellV P e A a t v := fun F I w u hI hv => by
  obtain ⟨p, x, h1, h2, h3⟩ := h F I w u hI hv;exact ⟨p, x, h1, h2, hw.rel h3⟩
end
section
variable {P : Program}
def pu : AV → AV → Option Bool
  | .v (.bool a), .v (.bool b) => some (a == b)
  | .v (.int k a), .v (.int k' b) => if k = k' then some (a == b) else none
  | .v (.string a), .v (.string b) => some (a == b)
  | _, _ => none
def iY : TypeDesc → AV → Bool
  | .bool, .v (.bool _) => true
  | .int _, .v (.int _ _) => true
  | .string, .v (.string _) => true
  | _, _ => false
def lO (P : Program) : List TypeId → List AV → List AV → Option (List Bool)
  | [], [], [] => some []
  | t :: ts, a :: as_, b :: bs => match P.underlying t, pu a b, lO P ts as_ bs with
    | some D, some r, some rs => if iY D a && iY D b then some (r :: rs) else none
    | _, _, _ => none
  | _, _, _ => none
theorem lw {t : TypeId} {D : TypeDesc} {a b : AV} {x y : Value} {r : Bool} {I : Info} {w : World} {n : Nat} (ht : P.underlying t = some D) (h1 : iY D a = true) (h2 : iY D b = true) (hr : pu a b = some r) (ha : Rel I w a x) (hb : Rel I w b y) (w' : World) :
    (Op.equalIn (n + 1) t x y).run P w' = .ok r w' := by
  cases D <;> cases a <;> (try (simp [iY] at h1; done)) <;> rename_i u <;> cases u <;> (try (simp [iY] at h1; done)) <;> cases b <;> (try (simp [iY] at h2; done)) <;> rename_i v <;> cases v <;> (try (simp [iY] at h2; done)) <;>
    cases ha <;> cases hb <;> simp only [Op.equalIn, Sem.run_bind, run_underlying ht, Result.andThen_ok] <;> simp only [pu] at hr
  · cases hr; rfl
  · split at hr
    · rename_i h; subst h; cases hr; simp
    · cases hr
  · cases hr; rfl
theorem jP {t : TypeId} {D : TypeDesc} {xs : List Value} {i : Nat} (hT : P.underlying t = some D) (hD : fj D = false) (hi : i < xs.length) (w : World) : (part t xs.toArray i).run P w = .ok (xs.getD i undef) w := by
  simp [part, fu hT hD, hi, List.getD]
theorem mb {T El len n : Nat} {D : TypeDesc} {xs ys : List Value} {rs : List Bool} (hT : P.underlying T = some (.array len El)) (hE : P.underlying El = some D) (hD : fj D = false) (hsz : bD P El = some 1) (hx : xs.length = len) (hy : ys.length = len) (hr : rs.length = len) (w : World)
    (h : ∀ i, i < len → (Op.equalIn (n + 1) El (xs.getD i undef) (ys.getD i undef)).run P w = .ok (rs.getD i true) w) : (Op.equalIn (n + 2) T (.agg xs.toArray) (.agg ys.toArray)).run P w = .ok (rs.all id) w := by
  rw [Op.equalIn]
  simp only [Sem.run_bind, run_underlying hT, Result.andThen_ok, bH hsz, Nat.mul_one]
  rw [Std.Legacy.Range.forIn_eq_forIn_range']
  have key : ∀ l : List Nat, (∀ i ∈ l, i < len) → Sem.run P (forIn l ((none : Option Bool), ()) fun i __s => do
      let a ← part El xs.toArray i
      let b ← part El ys.toArray i
      let c ← Op.equalIn (n + 1) El a b
      if (!c) = true then pure (ForInStep.done (some false, ())) else pure (ForInStep.yield (none, ()))) w = .ok (if l.all (fun i => rs.getD i true) then (none, ()) else (some false, ())) w := by
    intro l
    induction l with
    | nil => intro _; rfl
    | cons i l ih =>
      intro hl
      have hi := hl i (List.mem_cons_self ..)
      simp only [List.forIn_cons, Sem.run_bind, jP hE hD (show i < xs.length by omega) w, jP hE hD (show i < ys.length by omega) w, h i hi, Result.andThen_ok, List.all_cons]
      by_cases hb : rs.getD i true = true
      · simp only [hb, Bool.not_true, Bool.false_eq_true, if_false, Sem.run_pure, Result.andThen_ok, Bool.true_and]
        exact ih fun j hj => hl j (List.mem_cons_of_mem _ hj)
      · have hb' : rs.getD i true = false := by simpa using hb
        simp only [hb', Bool.not_false, if_true, Sem.run_pure, Result.andThen_ok, Bool.false_and, Bool.false_eq_true, if_false]
  have hall : (List.range' 0 len 1).all (fun i => rs.getD i true) = rs.all id := by
    rw [← hr]
    have : rs = (List.range' 0 rs.length 1).map (fun i => rs.getD i true) := by
      apply List.ext_getElem
      · simp
      · intro j h1 h2; simp [List.getD, h1]
    conv => rhs; rw [this]
    rw [List.all_map]; rfl
  have hk := key (List.range' 0 len 1) (fun i hi => by simpa using hi)
  rw [hall] at hk
  simp only [Std.Legacy.Range.size, Nat.sub_zero, Nat.add_sub_cancel, Nat.div_one]
  rw [hk]
  simp only [Result.andThen_ok]
  cases rs.all id <;> rfl
theorem kN {I : Info} {w : World} : ∀ (ts : List TypeId) (as_ bs : List AV) (rs : List Bool) (xs ys : List Value), lO P ts as_ bs = some rs → RelL I w as_ xs → RelL I w bs ys →
    rs.length = ts.length ∧ as_.length = ts.length ∧ bs.length = ts.length ∧ ∀ (n : Nat) (w' : World) (i : Nat) (hi : i < ts.length), (Op.equalIn (n + 1) ts[i] (xs.getD i undef) (ys.getD i undef)).run P w' = .ok (rs.getD i true) w'
  | [], [], [], rs, xs, ys, h, _, _ => by cases h; exact ⟨rfl, rfl, rfl, fun _ _ i hi => absurd hi (Nat.not_lt_zero _)⟩
  | t :: ts, a :: as_, b :: bs, rs, xs, ys, h, hx, hy => by
    obtain ⟨x, xs', rfl, hx1, hx2⟩ := hx.out_cons;obtain ⟨y, ys', rfl, hy1, hy2⟩ := hy.out_cons
    simp only [lO] at h
    split at h
    · rename_i D r rs' hD hr hrs
      split at h
      · rename_i hd
        cases h
        simp only [Bool.and_eq_true] at hd
        obtain ⟨h1, h2, h3, h4⟩ := kN ts as_ bs rs' xs' ys' hrs hx2 hy2;refine ⟨by simp [h1], by simp [h2], by simp [h3], fun n w' i hi => ?_⟩
        cases i with
        | zero => exact lw hD hd.1 hd.2 hr hx1 hy1 w'
        | succ i => exact h4 n w' i (by simpa using hi)
      · cases h
    · cases h
  | [], _ :: _, _, _, _, _, h, _, _ | [], [], _ :: _, _, _, _, h, _, _ | _ :: _, [], _, _, _, _, h, _, _ | _ :: _, _ :: _, [], _, _, _, h, _, _ => by simp [lO] at h
end
section
variable {P : Program} {e : Env} {d : Option Nat} {T T2 T' : TypeId} {pos : String} {after : Array Edge} {g : Option (Nat × Bool)} {x y z : Operand}
theorem kP {op : BinOp} {xs ys : Array Value} (hg : P.eqGuardType P.depth T = false) (w : World) : (eqGuard op T x y (.agg xs) (.agg ys)).run P w = .ok () w := by
  unfold eqGuard
  cases op <;> simp [program, Sem.run, hg]
theorem ii {op : BinOp} {as_ bs : List AV} {rs : List Bool} {r : Bool} {El len : Nat} {D : TypeDesc} (hop : op = .eql ∨ op = .neq) (hT : P.underlying T = some (.array len El)) (hE : P.underlying El = some D) (hD : fj D = false) (hsz : bD P El = some 1) (hg : P.eqGuardType P.depth T = false)
    (hx : opv e x = .agg as_) (hy : opv e y = .agg bs) (hl : lO P (List.replicate len El) as_ bs = some rs) (hr : rs.all id = r) : OpS P ⟨d, .binOp op T x y T', T2, pos, after, g⟩ e (B (if op = .eql then r else !r)) := fun I w ρ hρ => by
  have h1 := hx ▸ hρ x
  have h2 := hy ▸ hρ y
  generalize e1 : ρ x = u at h1
  generalize e2 : ρ y = v at h2
  cases h1 with
  | agg _ xs hlx hrx =>
    cases h2 with
    | agg _ ys hly hry =>
      obtain ⟨k1, k2, k3, k4⟩ := kN _ _ _ _ _ _ hl ⟨hlx, hrx⟩ ⟨hly, hry⟩
      simp only [List.length_replicate] at k1 k2 k3
      refine ⟨.bool (if op = .eql then r else !r), .v _, fun w' _ _ => ?_⟩
      have hq : (Op.equal T (.agg xs.toArray) (.agg ys.toArray)).run P w' = .ok r w' := by
        rw [← hr]
        refine mb (n := Op.maxDepth - 2) hT hE hD hsz (by omega) (by omega) (by omega) w' (fun i hi => ?_)
        have := k4 (Op.maxDepth - 2) w' i (by simpa using hi)
        simpa using this
      rcases hop with rfl | rfl
      · simp only [execOp, e1, e2, Sem.run_bind, kP hg, Result.andThen_ok, binOp, hq, Sem.run_pure, if_true]
      · simp only [execOp, e1, e2, Sem.run_bind, kP hg, Result.andThen_ok, binOp, hq, Sem.run_pure]; rfl
theorem nV {op : BinOp} {t : TypeId} {a : AV} {ms : List Method} {D : TypeDesc} (hop : op = .eql ∨ op = .neq) (hT : P.underlying T = some D) (hD : (match D with | .interface _ => true | _ => false) = true) (hx : opv e x = .ifc t a) : OpS P ⟨d, .binOp op T x (.const .nilIface) T', T2, pos, after, g⟩ e (B (if op = .eql then false else true)) := fun I w ρ hρ => by
  have h1 := hx ▸ hρ x
  have h2 := bS (hρ (.const .nilIface))
  generalize e1 : ρ x = u at h1
  cases h1 with
  | ifc _ _ y hy =>
    refine ⟨.bool (if op = .eql then false else true), .v _, fun w' _ _ => ?_⟩
    have hg : (eqGuard op T x (.const .nilIface) (.iface t y) .nilIface).run P w' = .ok () w' := mF (.inr ⟨_, _, rfl⟩) w'
    have hq : (Op.equal T (.iface t y) .nilIface).run P w' = .ok false w' := by
      cases D <;> first
        | (simp at hD; done)
        | (unfold Op.equal; rw [show Op.maxDepth = 9999 + 1 from rfl, Op.equalIn]; simp only [Sem.run_bind, run_underlying hT, Result.andThen_ok]; rfl)
    rcases hop with rfl | rfl
    · simp only [execOp, e1, h2, Sem.run_bind, hg, Result.andThen_ok, binOp, hq, Sem.run_pure, if_true]
    · simp only [execOp, e1, h2, Sem.run_bind, hg, Result.andThen_ok, binOp, hq, Sem.run_pure]; rfl
end
section
variable {P : Program} {N : Nat} {fn : Func} {e : Env} {A : List Chunk} {av bv cv : AV}
def PlaceV (P : Program) (e : Env) (A : List Chunk) : ResultVar → AV → Prop
  | .tmp t, av => Wv (ev e t) av
  | .cell a t, av => CellV P e A a t av
def lJ (tmps : Array Value) : ResultVar → Sem Value
  | .tmp t => pure (tmps.getD t undef)
  | .cell a t => do loadVar t (← asAddr (tmps.getD a undef))
theorem PlaceV.run {r : ResultVar} (h : PlaceV P e A r av) {F : List Chunk} {I : Info} {w : World} {tmps : Array Value} (hI : Inv I (A ++ F) w) (ht : ∀ t, Rel I w (ev e t) (tmps.getD t undef)) : ∃ x, (lJ tmps r).run P w = .ok x w ∧ Rel I w av x := by
  cases r with
  | tmp t => exact ⟨_, rfl, Wv.rel h (ht t)⟩
  | cell a t =>
    obtain ⟨p, x, h1, h2, h3⟩ := h F I w _ hI (ht a);exact ⟨x, by simp only [lJ, Sem.run_bind, h1, Result.andThen_ok, h2], h3⟩
theorem jl (tmps : Array Value) : results fn tmps = (do let vs ← fn.results.mapM (lJ tmps); pure (if h : vs.size = 1 then vs[0] else .tuple vs)) := by
  unfold results
  congr 1
theorem cV {r : ResultVar} (hr : fn.results = #[r]) (h : PlaceV P e A r av) : ResT P fn N e A av := fun F I w tmps hI hs ht => by
  obtain ⟨x, h1, h2⟩ := h.run hI ht;refine ⟨x, ?_, h2⟩
  rw [jl, hr]
  simp [h1]
theorem iK {r q : ResultVar} (hr : fn.results = #[r, q]) (h : PlaceV P e A r av) (g : PlaceV P e A q bv) : ResT P fn N e A (.tup [av, bv]) := fun F I w tmps hI hs ht => by
  obtain ⟨x, h1, h2⟩ := h.run hI ht;obtain ⟨y, g1, g2⟩ := g.run hI ht;refine ⟨.tuple #[x, y], ?_, .tup _ [x, y] rfl (cX h2 (cX g2 dj)).2⟩
  rw [jl, hr]
  simp [h1, g1]
end
end Go.Av
namespace Go.Av
theorem Inv.alloc_chunk {I : Info} {A : List Chunk} {w : World} (h : Inv I A w) {o : Nat} (ho : I.obj o = none) (x : Obj) {c : Chunk} (hcb : c.blk (I.putObj o w.heap.size) = some w.heap.size)
    (hc : c.Holds (I.putObj o w.heap.size) (w.alloc x)) : Inv (I.putObj o w.heap.size) (c :: A) (w.alloc x) := by
  have X := h.new_obj ho x
  have hlt : ∀ c ∈ A, ∀ b, c.blk I = some b → b ≠ w.heap.size := fun c hc b hb e => by
    have := (h.holds c hc).blk_lt hb; omega
  have K : Inv (I.putObj o w.heap.size) A (w.alloc x) := by
    refine h.keep X (fun c hc b hb => ⟨bq _ _ _ (hlt c hc b hb), by simp only [Info.putObj]; rw [if_neg (hlt c hc b hb)]⟩) (fun b hb => ?_) ?_
    · simp only [World.size_alloc] at hb
      simp only [Info.putObj]; rw [if_neg (by omega)]; exact h.fresh b (by omega)
    · obtain ⟨n, hn⟩ := h.ids
      refine ⟨max n (o + 1), fun x hx => ?_⟩
      have := hn x (by omega)
      refine ⟨?_, this.2⟩
      simp only [Info.putObj]; rw [if_neg (by omega)]; exact this.1
  refine K.cons hc ?_;intro b hb d hd e
  rw [hcb] at hb
  have := ((h.holds d hd).keep X (fun b' hb' => ⟨bq _ _ _ (hlt d hd b' hb'), by simp only [Info.putObj]; rw [if_neg (hlt d hd b' hb')]⟩)).2
  rw [this] at e
  exact hlt d hd b e (ak hb).symm
theorem Inv.set_chunk {I : Info} {A : List Chunk} {w : World} {c c' : Chunk} {b : Nat} (h : Inv I (c :: A) w) (hcb : c.blk I = some b) (hcb' : c'.blk I = some b) (he : I.ext b = some 0)
    (hnc : ∀ cs E fz, w.heap[b]? ≠ some (.cells cs E fz)) {w' : World} (hos : w'.os = w.os) (htape : w'.tape = w.tape) (hout : w'.output = w.output) (hsz : w'.heap.size = w.heap.size)
    (hne : ∀ b', b' ≠ b → w'.heap[b']? = w.heap[b']?) (hc : Ext I w I w' → c'.Holds I w') : Ext I w I w' ∧ Inv I (c' :: A) w' := by
  have X : Ext I w I w' := by
    refine ⟨hos, htape, hout, by omega, fun c hc => ?_, fun c j hj => ?_, fun _ _ h => h, fun _ _ h => h, fun _ _ h => h, fun c E hE => ?_⟩
    · have : c ≠ b := fun e => by rw [e, he] at hc; cases hc
      exact ⟨hne c this, hc⟩
    · have : c ≠ b := fun e => by have := hj 0 (by rw [e]; exact he); omega
      simp only [World.cell?, hne c this]
    · by_cases e : c = b
      · subst e; obtain ⟨d, fz, hd⟩ := hE; exact absurd hd (hnc _ _ _)
      · obtain ⟨d, fz, hd⟩ := hE; exact ⟨d, fz, (hne c e).trans hd⟩
  have hap := h.apart (c := c) (b := b) hcb
  refine ⟨X, Inv.cons ((h.sub (List.sublist_cons_self ..)).keep X (fun d hd b' hb' => ?_) (fun b' hb' => h.fresh b' (by omega)) h.ids) (hc X) (fun b' hb' d hd e => ?_)⟩
  · have : b' ≠ b := fun e => hap d hd (by rw [← e]; exact hb')
    exact ⟨hne b' this, rfl⟩
  · exact hap d hd (by rw [hcb'] at hb'; cases hb'; exact e)
section
variable {I : Info} {A : List Chunk} {w : World} {P : Program} {o N d : Nat} {st : LoopState} {pend : Option Code} {fn : FuncId} {env : Nat → AV} {ps : Array Tmp} {asg bd : Code}
theorem iz {l : Nat} (h : Inv I (.lp o .ready pend fn N env ps asg bd d :: A) w) (ho : I.obj o = some l) :
    ∃ w', (Instr.beginRound l).run P w = .ok () w' ∧ Ext I w I w' ∧ Inv I (.lp o .busy pend fn N env ps asg bd d :: A) w' := by
  obtain ⟨b, r, ho', he, hh, a1, a2, a3, a4, a5, a6, a7, a8, a9⟩ := h.holds _ (List.mem_cons_self ..)
  rw [ho] at ho'; cases ho'
  have hlt := (Array.getElem?_eq_some_iff.1 hh).1
  refine ⟨{ w with heap := w.heap.setIfInBounds l (.loop { r with state := .busy }) }, ?_, ?_⟩
  · simp only [Instr.beginRound, Instr.getLoop, getObj, setObj, Sem.run_bind, Sem.run, hh, Result.andThen]
    simp [a1, hh]
  · refine h.set_chunk (c' := .lp o .busy pend fn N env ps asg bd d) (show Chunk.blk I (.lp o .ready pend fn N env ps asg bd d) = some l from ho) (show Chunk.blk I (.lp o .busy pend fn N env ps asg bd d) = some l from ho) he (fun _ _ _ e => by rw [hh] at e; cases e) rfl rfl rfl (by simp) (fun b' hb' => by simp only []; rw [Array.getElem?_setIfInBounds_ne (Ne.symm hb')]) fun X => ?_
    exact ⟨l, { r with state := .busy }, ho, he, by simp [hlt], rfl, a2, a3, a4, fun t => (a5 t).mono X, a6, a7, a8, a9⟩
theorem jQ {l : Nat} (h : Inv I (.lp o st pend fn N env ps asg bd d :: A) w) (ho : I.obj o = some l) (jump : Option Code) :
    ∃ w', (Instr.endRound l jump).run P w = .ok (.bool jump.isNone) w' ∧ Ext I w I w' ∧ Inv I (.lp o (if jump.isNone then .ready else .done) jump fn N env ps asg bd d :: A) w' := by
  obtain ⟨b, r, ho', he, hh, a1, a2, a3, a4, a5, a6, a7, a8, a9⟩ := h.holds _ (List.mem_cons_self ..)
  rw [ho] at ho'; cases ho'
  have hlt := (Array.getElem?_eq_some_iff.1 hh).1
  refine ⟨{ w with heap := w.heap.setIfInBounds l (.loop { r with state := if jump.isNone then .ready else .done, pending := jump }) }, ?_, ?_⟩
  · simp only [Instr.endRound, Instr.getLoop, getObj, setObj, Sem.run_bind, Sem.run, hh, Result.andThen]
    simp [hh]
  · refine h.set_chunk (c' := .lp o (if jump.isNone then .ready else .done) jump fn N env ps asg bd d) (show Chunk.blk I (.lp o st pend fn N env ps asg bd d) = some l from ho) (show Chunk.blk I (.lp o (if jump.isNone then .ready else .done) jump fn N env ps asg bd d) = some l from ho) he (fun _ _ _ e => by rw [hh] at e; cases e) rfl rfl rfl (by simp) (fun b' hb' => by simp only []; rw [Array.getElem?_setIfInBounds_ne (Ne.symm hb')]) fun X => ?_
    exact ⟨l, { r with state := if jump.isNone then .ready else .done, pending := jump }, ho, he, by simp [hlt], rfl, rfl, a3, a4, fun t => (a5 t).mono X, a6, a7, a8, a9⟩
theorem kE {l : Nat} (h : Inv I (.lp o st pend fn N env ps asg bd d :: A) w) (ho : I.obj o = some l) (hs : st ≠ .busy) :
    ∃ w', (Instr.endLoop l).run P w = .ok pend w' ∧ Ext I w I w' ∧ Inv I A w' := by
  obtain ⟨b, r, ho', he, hh, a1, a2, a3, a4, a5, a6, a7, a8, a9⟩ := h.holds _ (List.mem_cons_self ..)
  rw [ho] at ho'; cases ho'
  have hlt := (Array.getElem?_eq_some_iff.1 hh).1
  have hb : (r.state == LoopState.busy) = false := by rw [a1]; cases st <;> first | rfl | exact absurd rfl hs
  obtain ⟨X, hI⟩ := h.set_chunk (c' := .lp o .exhausted pend fn N env ps asg bd d) (w' := { w with heap := w.heap.setIfInBounds l (.loop { r with state := .exhausted }) }) (show Chunk.blk I (.lp o st pend fn N env ps asg bd d) = some l from ho) (show Chunk.blk I (.lp o .exhausted pend fn N env ps asg bd d) = some l from ho) he (fun _ _ _ e => by rw [hh] at e; cases e) rfl rfl rfl (by simp) (fun b' hb' => by simp only []; rw [Array.getElem?_setIfInBounds_ne (Ne.symm hb')]) fun X =>
    ⟨l, { r with state := .exhausted }, ho, he, by simp [hlt], rfl, a2, a3, a4, fun t => (a5 t).mono X, a6, a7, a8, a9⟩
  refine ⟨_, ?_, X, hI.sub (List.sublist_cons_self ..)⟩
  simp only [Instr.endLoop, Instr.getLoop, getObj, setObj, Sem.run_bind, Sem.run, hh, Result.andThen, hb, Bool.false_eq_true, if_false]
  simp [hh, a2, Sem.run, Result.andThen]
  intro e; exact absurd (a1.symm.trans e) hs
theorem my {l : Nat} (h : Inv I (.lp o st pend fn N env ps asg bd d :: A) w) (ho : I.obj o = some l) (args : Array Value) (hn : args.size = ps.size) :
    ∃ tmps, (Instr.yield l args).run P w = .ok (.round l fn ((ps.zip args).foldl (fun tmps (t, a) => tmps.setIfInBounds t a) tmps) asg bd) w ∧ tmps.size = N ∧ ∀ t, Rel I w (env t) (tmps.getD t undef) := by
  obtain ⟨b, r, ho', he, hh, a1, a2, a3, a4, a5, a6, a7, a8, a9⟩ := h.holds _ (List.mem_cons_self ..)
  rw [ho] at ho'; cases ho'
  refine ⟨r.tmps, ?_, a4, a5⟩
  simp only [Instr.yield, Instr.getLoop, getObj, Sem.run_bind, Sem.run, hh, Result.andThen]
  simp [a3, a6, a7, a8, hn]
theorem jk (h : Inv I A w) {tmps : Array Value} (hs : tmps.size = N) (he : ∀ t, Rel I w (env t) (tmps.getD t undef)) :
    ∃ l b o2 o1 w' I', (Instr.enterLoop fn tmps ps asg bd none).run P w = .ok (l, [{ target := .collected b, args := #[] }]) w' ∧ Ext I w I' w' ∧ I'.obj o1 = some l ∧ I'.obj o2 = some b ∧ Inv I' (.lp o1 .ready none fn N env ps asg bd o2 :: .db o2 :: A) w' := by
  obtain ⟨o2, ho2⟩ := h.fresh_obj
  have X1 := h.new_obj ho2 (.deferred (some []))
  have hI1 := h.alloc_chunk ho2 (.deferred (some [])) (c := .db o2) (by simp [Chunk.blk, Info.putObj]) ⟨w.heap.size, by simp [Info.putObj], by simp [Info.putObj], bC _ _⟩
  obtain ⟨o1, ho1⟩ := hI1.fresh_obj
  have X2 := hI1.new_obj ho1 (.loop { state := .ready, pending := none, fn, tmps, params := ps, assign := asg, body := bd, defers := w.heap.size })
  have hd : (Info.putObj I o2 w.heap.size).obj o2 = some w.heap.size := by simp [Info.putObj]
  have hI2 := hI1.alloc_chunk ho1 (.loop { state := .ready, pending := none, fn, tmps, params := ps, assign := asg, body := bd, defers := w.heap.size }) (c := .lp o1 .ready none fn N env ps asg bd o2) (by simp [Chunk.blk, Info.putObj])
    ⟨(w.alloc (.deferred (some []))).heap.size, { state := .ready, pending := none, fn, tmps, params := ps, assign := asg, body := bd, defers := w.heap.size }, by simp [Info.putObj], by simp [Info.putObj], bC _ _, rfl, rfl, rfl, hs, fun t => ((he t).mono X1).mono X2, rfl, rfl, rfl, X2.obj _ _ hd⟩
  refine ⟨(w.alloc (.deferred (some []))).heap.size, w.heap.size, o2, o1, _, _, ?_, X1.trans X2, by simp [Info.putObj], X2.obj _ _ hd, hI2⟩
  simp only [Instr.enterLoop, newObj, Sem.run_bind, Sem.run, Result.andThen]
  rfl
end
end Go.Av
namespace Go.Av
open Go.RowKit
section
variable {P : Program} {ro : Option Nat} {N : Nat} {Q : cW} {ops : Array Oper}
def gL (P : Program) (o : Nat) (args : List AV) (A : List Chunk) (R : AE → List Chunk → Prop) : Prop :=
  ∀ F I w vs l, Inv I (A ++ F) w → I.obj o = some l → RelL I w args vs → ∃ fn tmps asg bd, (Instr.yield l vs.toArray).run P w = .ok (.round l fn tmps asg bd) w ∧
    RoundIn (cl none) 0 P l fn tmps asg bd w fun e w' => ∃ I' ae A', Ext I w I' w' ∧ Inv I' (A' ++ F) w' ∧ kW I' w' ae e ∧ R ae A'
theorem rel_yl {I : Info} {w : World} {o : Nat} {v : Value} (h : Rel I w (.yl o) v) : ∃ l, v = .func (.yield l) #[] #[] ∧ I.obj o = some l := by
  cases h with
  | yl o l h => exact ⟨l, rfl, h⟩
theorem AO.yield {rest : List Nat} {d : Nat} {x : Operand} {o : Nat} {args : Array Operand} {argTypes : Array TypeId} {Ty : TypeId} {pos : String} {after : Array Edge} {g : Option (Nat × Bool)} {e : Env} {ds : List ADef} {A : List Chunk} (B T : List Chunk)
    {R : AE → List Chunk → Prop} {avs : List AV} (hd : Nat.blt d N = true) (hx : opv e x = .yl o) (ha : args.toList.map (opv e) = avs) (p : A = B ++ T)
    (h : gL P o avs T R) (k : ∀ av T', R (.ret av) T' → AR P none N ops Q rest ⟨(d, av) :: e, ds, B ++ T'⟩)
    (kp : ∀ c T', R (.pan c) T' → Q (.panic c) ⟨e, ds, B ++ T'⟩) :
    AO P none N ops Q rest ⟨some d, .call ⟨.value x, args, argTypes⟩, Ty, pos, after, g⟩ ⟨e, ds, A⟩ := fun F I w a hI hS => by
  subst p
  have hS' := hS
  obtain ⟨l, hv, ho⟩ := rel_yl (hx ▸ hS'.op x)
  have hrl : RelL I w avs (args.toList.map a.eval) := by
    rw [← ha]; exact RelL.map _ _ _ fun x _ => hS'.op x
  have hI2 : Inv I (T ++ (B ++ F)) w := by
    refine hI.perm ?_
    rw [← List.append_assoc]
    exact (List.perm_append_comm).append_right F
  obtain ⟨fn, tmps, asg, bd, hy, hR⟩ := h (B ++ F) I w _ l hI2 ho hrl;refine ⟨fun _ _ => cj _, ?_⟩
  have he : (#[] : Array Value) ++ args.map a.eval = (args.toList.map a.eval).toArray := by apply Array.ext'; simp
  have hex : (Oper.semAt (cl none).round a.eval ⟨some d, .call ⟨.value x, args, argTypes⟩, Ty, pos, after, g⟩).run P w = .ok (.round l fn tmps asg bd) w := by
    rw [Oper.semAt_eq _ _ _ (fun c h => by cases h)]
    simp only [execOp, resolve, hv, Deferred.ofValue, Sem.run_bind, Sem.run_pure, Result.andThen_ok, invoke, he, Array.append_empty]
    exact hy
  rw [hex]
  refine ⟨jb, hR.mono fun en w' ⟨I', ae, A', E, hI', hre, hR⟩ => ?_⟩
  have hI3 : Inv I' ((B ++ A') ++ F) w' := by
    refine hI'.perm ?_
    rw [← List.append_assoc]
    exact (List.perm_append_comm).append_right F
  cases en with
  | returned v =>
    cases ae with
    | ret av =>
      have hk := k av A' hR F I' w' (a.put (some d) v) hI3 ((hS.mono E).put (aa hd) hre _)
      exact bN rest (fun _ _ _ => cb E fun _ _ h => h) _ _ hk
    | pan c => exact hre.elim
  | panicked c =>
    cases ae with
    | ret av => exact hre.elim
    | pan c' =>
      cases hre
      exact ⟨I', ⟨e, ds, B ++ A'⟩, E, hI3, ⟨hS.size, (hS.mono E).env, (hS.mono E).ds⟩, kp _ A' hR⟩
  | outgrown => cases ae <;> exact hre.elim
def qM {σ τ : Type} (T : σ → τ → List Chunk) (J : σ → Option Code) (R : AE → σ → Prop) : cW
  | .normal, s => ∃ s' t', R (.ret (.v (.bool true))) s' ∧ J s' = none ∧ Sub (T s' t') s.A
  | .ret, s => ∃ s' t', R (.ret (.v (.bool false))) s' ∧ J s' = some .ret ∧ Sub (T s' t') s.A
  | .exit id, s => ∃ s' t', R (.ret (.v (.bool false))) s' ∧ J s' = some (.exit id) ∧ Sub (T s' t') s.A
  | .goto l, s => ∃ s' t', R (.ret (.v (.bool false))) s' ∧ J s' = some (.goto l) ∧ Sub (T s' t') s.A
  | .panic _, _ => False
  | .outgrown, _ => False
def NoExit (K : St → Prop) : cW
  | .normal, s => K s
  | _, _ => False
def kT : List (Nat × AV) → Env → Env
  | [], e => e
  | p :: l, e => kT l (p :: e)
theorem jw {I : Info} {w : World} : ∀ (l : List (Nat × Value)) (m : List (Nat × AV)) (e : Env) (tmps : Array Value), tmps.size = N → (∀ t, Rel I w (ev e t) (tmps.getD t undef)) →
    l.map (·.1) = m.map (·.1) → (∀ p ∈ m, p.1 < N) → RelL I w (m.map (·.2)) (l.map (·.2)) →
    (l.foldl (fun tmps p => tmps.setIfInBounds p.1 p.2) tmps).size = N ∧ ∀ t, Rel I w (ev (kT m e) t) ((l.foldl (fun tmps p => tmps.setIfInBounds p.1 p.2) tmps).getD t undef)
  | [], m, e, tmps, hs, he, hk, hN, hr => by
    cases m with
    | nil => exact ⟨hs, he⟩
    | cons q m => simp at hk
  | p :: l, m, e, tmps, hs, he, hk, hN, hr => by
    cases m with
    | nil => simp at hk
    | cons q m =>
      simp only [List.map_cons, List.cons.injEq] at hk
      have hr' : RelL I w (q.2 :: m.map (·.2)) (p.2 :: l.map (·.2)) := hr
      have hS : RelS N I w ⟨e, [], []⟩ { tmps := tmps, defers := [] } := ⟨hs, he, .nil⟩
      have hp := hS.put (d := p.1) (by rw [hk.1]; exact hN q (List.mem_cons_self ..)) hr'.head []
      refine jw l m (q :: e) _ (by simpa using hs) (fun t => ?_) hk.2 (fun r hr => hN r (List.mem_cons_of_mem _ hr)) hr'.tail
      have := hp.env t
      have hq : q = (p.1, q.2) := by rw [hk.1]
      rw [hq]
      exact this
abbrev _root_.Go.Av.bz := @List.perm_middle
theorem jZ (c d : Chunk) (A B C : List Chunk) : (A ++ (c :: B) ++ (d :: C)).Perm (c :: d :: (A ++ B ++ C)) := by
  have h1 : (A ++ (c :: B) ++ (d :: C)).Perm (d :: (A ++ (c :: B) ++ C)) := bz
  have h2 : (A ++ (c :: B) ++ C).Perm (c :: (A ++ B ++ C)) := by
    rw [List.append_assoc, List.append_assoc, List.cons_append]
    exact bz
  exact h1.trans ((h2.cons d).trans (List.Perm.swap ..))
theorem AW.rangeFunc {α σ τ : Type} {gf : Operand} {ps : Array Tmp} {asg bd : Code} {f : FuncId} {fs cs : List AV} {e : Env} {ds : List ADef} {A : List Chunk}
    (enc : α → List AV) (Own B : List Chunk) (T : σ → τ → List Chunk) (J : σ → Option Code) (D : σ → α → Prop) (RR : σ → α → AE → σ → Prop) (RE : AV → σ → List Chunk → Prop) (s₀ : σ) (t₀ : τ)
    (hg : opv e gf = .fn (.func f) fs cs) (hf : ∀ args w, (callFunc f args).run P w = .ok (.enter f args) w) (hps : ∀ x, (enc x).length = ps.size) (hN : ∀ p ∈ ps.toList, p < N)
    (p : A.Perm (Own ++ (T s₀ t₀ ++ B))) (hJ : J s₀ = none)
    (hround : ∀ l s t x, D s x → J s = none ∧ AW P (some l) N asg (NoExit (AW P (some l) N bd (qM T J (RR s x)))) ⟨kT (ps.toList.zip (enc x)) e, [], T s t⟩)
    (hiter : ∀ (o : Nat) (T' : σ → τ → List Chunk), (∀ s t x, D s x → gL P o (enc x) (T' s t) fun ae A' => ∃ s' t', RR s x ae s' ∧ A' = T' s' t') →
      ACalls P f (fs ++ [.yl o] ++ cs) (Own ++ T' s₀ t₀) fun ae A' => ∃ v s₁ t₁ A1, ae = .ret v ∧ RE v s₁ A1 ∧ A' = A1 ++ T' s₁ t₁)
    (k : ∀ o2 v s₁ t₁ A1, RE v s₁ A1 → match J s₁ with
      | none => Q .normal ⟨e, .mark o2 :: ds, .db o2 :: (A1 ++ (T s₁ t₁ ++ B))⟩
      | some c => AW P none N c Q ⟨e, .mark o2 :: ds, .db o2 :: (A1 ++ (T s₁ t₁ ++ B))⟩) :
    AW P none N (.rangeFunc gf ps asg bd) Q ⟨e, ds, A⟩ := fun F I w a hI hS => by
  refine wpIn_rangeFunc fun fn hfn => ?_
  have hS0 := hS
  obtain ⟨xs, ys, hv, hxs, hys⟩ := nA (hg ▸ hS0.op gf);obtain ⟨l, b, o2, o1, w1, I1, hrun, E1, ho1, ho2, hI1⟩ := jk (P := P) (fn := fn) (ps := ps) (asg := asg) (bd := bd) (env := fun t => ev e t) hI hS.size hS.env
  have hS1 := hS.mono E1
  have he : xs.toArray ++ #[Value.func (.yield l) #[] #[]] ++ ys.toArray = (xs ++ [Value.func (.yield l) #[] #[]] ++ ys).toArray := by apply Array.ext'; simp
  refine ⟨l, _, w1, { target := .fn (.func f) ys.toArray, args := xs.toArray ++ #[Value.func (.yield l) #[] #[]] }, w1, f, (xs ++ [Value.func (.yield l) #[] #[]] ++ ys).toArray, w1, hrun, ?_, fun _ _ => cj _, ?_, jb, ?_⟩
  · have := gH (P := P) (ρ := a.eval) (args := #[.const (.func (.yield l) #[] #[])]) (argTypes := #[]) (T := 0) (w := w1) hv
    simpa [rangeCall, Act.eval] using this
  · simp only [invoke, he]
    exact hf _ _
  -- the record's chunk
  obtain ⟨LP, hLP⟩ : ∃ LP : LoopState → Option Code → Chunk, LP = fun st j => .lp o1 st j fn N (fun t => ev e t) ps asg bd o2 := ⟨_, rfl⟩
  obtain ⟨T', hT'⟩ : ∃ T' : σ → τ → List Chunk, T' = fun s t => LP (if (J s).isNone then .ready else .done) (J s) :: T s t := ⟨_, rfl⟩
  have hY : ∀ s t x, D s x → gL P o1 (enc x) (T' s t) fun ae A' => ∃ s' t', RR s x ae s' ∧ A' = T' s' t' := by
    intro s t x hD F' I' w' vs l' hI' hol hrl;obtain ⟨hJs, hwalk⟩ := hround l' s t x hD
    have hT0 : T' s t = LP .ready none :: T s t := by rw [hT']; simp [hJs]
    rw [hT0] at hI'
    rw [hLP] at hI'
    obtain ⟨tmps, hyr, hts, htr⟩ := my (P := P) (A := T s t ++ F') hI' hol vs.toArray (by rw [List.size_toArray, hrl.1]; exact hps x);refine ⟨fn, _, asg, bd, hyr, roundIn_of_wpIn hfn ?_⟩
    have hlen : vs.length = ps.toList.length := by rw [hrl.1, hps x]; simp
    have hzip : (ps.zip vs.toArray).toList = ps.toList.zip vs := by simp
    have hfold : (ps.zip vs.toArray).foldl (fun tmps p => tmps.setIfInBounds p.1 p.2) tmps = (ps.toList.zip vs).foldl (fun tmps p => tmps.setIfInBounds p.1 p.2) tmps := by
      rw [← hzip, Array.foldl_toList]
    have hput := jw (N := N) (ps.toList.zip vs) (ps.toList.zip (enc x)) e tmps hts htr
      (by rw [List.map_fst_zip (by omega), List.map_fst_zip (by have := hps x; simp; omega)])
      (fun q hq => hN _ (List.of_mem_zip hq).1)
      (by rw [List.map_snd_zip (by have := hps x; simp; omega), List.map_snd_zip (by omega)]; exact hrl)
    have hIp : Inv I' (T s t ++ (LP .ready none :: F')) w' := by
      rw [hLP]
      refine hI'.perm ?_;exact (bz).symm
    have hSr : RelS N I' w' ⟨kT (ps.toList.zip (enc x)) e, [], T s t⟩ { tmps := (ps.zip vs.toArray).foldl (fun tmps (p : Nat × Value) => tmps.setIfInBounds p.1 p.2) tmps, defers := [] } := by
      refine ⟨(congrArg Array.size hfold).trans hput.1, fun t0 => ?_, .nil⟩
      have h0 := hput.2 t0
      rw [← hfold] at h0
      exact h0
    refine wpIn_mono (hwalk (LP .ready none :: F') I' w' _ hIp hSr) fun e1 a1 w1' hq1 => ?_
    obtain ⟨I2, s2, E2, hI2, hS2, hq1⟩ := hq1
    cases e1 with
    | normal =>
      have hI2p : Inv I2 (.lp o1 .ready none fn N (fun t => ev e t) ps asg bd o2 :: (s2.A ++ F')) w1' := by
        refine hI2.perm ?_
        rw [hLP]
        exact bz
      obtain ⟨w2, hbr, E3, hI3⟩ := iz (P := P) hI2p (E2.obj _ _ hol);refine ⟨w2, hbr, ?_⟩
      have hI3p : Inv I2 (s2.A ++ (.lp o1 .busy none fn N (fun t => ev e t) ps asg bd o2 :: F')) w2 := hI3.perm (bz).symm
      refine wpIn_mono (hq1 _ I2 w2 a1 hI3p (hS2.mono E3)) fun e3 a3 w3 hq3 => ?_
      obtain ⟨I4, s4, E4, hI4, hS4, hq3⟩ := hq3
      have hol4 := E4.obj _ _ (E3.obj _ _ (E2.obj _ _ hol))
      have E14 := (E2.trans E3).trans E4
      have fin : ∀ (jump : Option Code) (s' : σ) (t' : τ), J s' = jump → Sub (T s' t') s4.A → RR s x (.ret (.v (.bool jump.isNone))) s' →
          ∃ v w5, (Instr.endRound l' jump).run P w3 = .ok v w5 ∧ ∃ I5 ae A', Ext I' w' I5 w5 ∧ Inv I5 (A' ++ F') w5 ∧ kW I5 w5 ae (.returned v) ∧ ∃ s' t', RR s x ae s' ∧ A' = T' s' t' := by
        intro jump s' t' hj hsub hr
        have hI4p : Inv I4 (.lp o1 .busy none fn N (fun t => ev e t) ps asg bd o2 :: (T s' t' ++ F')) w3 := by
          have h1 := hsub.inv hI4
          exact h1.perm bz
        obtain ⟨w5, hend, E5, hI5⟩ := jQ (P := P) hI4p hol4 jump;refine ⟨_, w5, hend, I4, .ret (.v (.bool jump.isNone)), T' s' t', E14.trans E5, ?_, .v _, s', t', hr, rfl⟩
        have : T' s' t' = .lp o1 (if jump.isNone then .ready else .done) jump fn N (fun t => ev e t) ps asg bd o2 :: T s' t' := by rw [hT', hLP, ← hj]
        rw [this]
        exact hI5
      cases e3 with
      | normal => obtain ⟨s', t', hr, hj, hsub⟩ := hq3; exact fin none s' t' hj hsub hr
      | ret => obtain ⟨s', t', hr, hj, hsub⟩ := hq3; exact fin (some .ret) s' t' hj hsub hr
      | exit id => obtain ⟨s', t', hr, hj, hsub⟩ := hq3; exact fin (some (.exit id)) s' t' hj hsub hr
      | goto q => obtain ⟨s', t', hr, hj, hsub⟩ := hq3; exact fin (some (.goto q)) s' t' hj hsub hr
      | panic c => exact hq3.elim
      | outgrown => exact hq3.elim
    | _ => exact hq1.elim
  -- the one call
  have hT0 : T' s₀ t₀ = LP .ready none :: T s₀ t₀ := by rw [hT']; simp [hJ]
  have hI1p : Inv I1 ((Own ++ T' s₀ t₀) ++ (.db o2 :: (B ++ F))) w1 := by
    refine hI1.perm ?_
    rw [hT0, hLP]
    have h1 : (A ++ F).Perm (Own ++ (T s₀ t₀ ++ (B ++ F))) := by
      refine (p.append_right F).trans (List.Perm.of_eq ?_)
      simp
    refine ((h1.cons _).cons _).trans ?_;exact (List.Perm.of_eq (by simp)).trans (jZ _ _ Own (T s₀ t₀) (B ++ F)).symm
  have hrl : RelL I1 w1 (fs ++ [.yl o1] ++ cs) (xs ++ [Value.func (.yield l) #[] #[]] ++ ys) :=
    ((hxs.mono E1).append (cX (.yl o1 l ho1) dj)).append (hys.mono E1)
  refine (AO.call.callsIn_wide').2 ((hiter o1 T' hY _ I1 w1 _ hI1p hrl).mono fun en w2 ⟨I2, ae, A', E2, hI2, hre, av, s₁, t₁, A1, hae, hRE, hA'⟩ => ?_)
  have E12 := E1.trans E2
  subst hae
  cases en with
  | returned v =>
      have hA2 : A' = A1 ++ (LP (if (J s₁).isNone then .ready else .done) (J s₁) :: T s₁ t₁) := by rw [hA', hT']
      rw [hA2, hLP] at hI2
      have hI2p : Inv I2 (.lp o1 (if (J s₁).isNone then .ready else .done) (J s₁) fn N (fun t => ev e t) ps asg bd o2 :: (.db o2 :: (A1 ++ (T s₁ t₁ ++ B)) ++ F)) w2 := by
        refine hI2.perm ?_;exact (jZ _ _ A1 (T s₁ t₁) (B ++ F)).trans (List.Perm.of_eq (by simp))
      obtain ⟨w3, hend, E3, hI3⟩ := kE (P := P) hI2p (E2.obj _ _ ho1) (by split <;> simp)
      have hS3 : RelS N I2 w3 ⟨e, .mark o2 :: ds, .db o2 :: (A1 ++ (T s₁ t₁ ++ B))⟩ { a with defers := [{ target := .collected b, args := #[] }] ++ a.defers } :=
        ⟨hS.size, ((hS1.mono E2).mono E3).env, .cons (.mark o2 b (E3.obj _ _ (E2.obj _ _ ho2))) ((hS1.mono E2).mono E3).ds⟩
      have hk := k o2 av s₁ t₁ A1 hRE
      refine ⟨_, w3, hend, ?_⟩
      cases hj : J s₁ with
      | none => rw [hj] at hk; exact ⟨I2, _, E12.trans E3, hI3, hS3, hk⟩
      | some c => rw [hj] at hk; exact wpIn_mono (hk F I2 w3 _ hI3 hS3) fun _ _ _ => cb (E12.trans E3) fun _ _ h => h
  | panicked c => exact hre.elim
  | outgrown => exact hre.elim
theorem Inv.lose {I : Info} {A : List Chunk} {w : World} {c : Chunk} {b : Nat} (h : Inv I (c :: A) w) (hcb : c.blk I = some b) (he : I.ext b = some 0)
    (hnc : ∀ cs E fz, w.heap[b]? ≠ some (.cells cs E fz)) {w' : World} (hos : w'.os = w.os) (htape : w'.tape = w.tape) (hout : w'.output = w.output) (hsz : w'.heap.size = w.heap.size)
    (hne : ∀ b', b' ≠ b → w'.heap[b']? = w.heap[b']?) : Ext I w I w' ∧ Inv I A w' := by
  have X : Ext I w I w' := by
    refine ⟨hos, htape, hout, by omega, fun c hc => ?_, fun c j hj => ?_, fun _ _ h => h, fun _ _ h => h, fun _ _ h => h, fun c E hE => ?_⟩
    · have : c ≠ b := fun e => by rw [e, he] at hc; cases hc
      exact ⟨hne c this, hc⟩
    · have : c ≠ b := fun e => by have := hj 0 (by rw [e]; exact he); omega
      simp only [World.cell?, hne c this]
    · by_cases e : c = b
      · subst e; obtain ⟨d, fz, hd⟩ := hE; exact absurd hd (hnc _ _ _)
      · obtain ⟨d, fz, hd⟩ := hE; exact ⟨d, fz, (hne c e).trans hd⟩
  have hap := h.apart (c := c) (b := b) hcb
  refine ⟨X, (h.sub (List.sublist_cons_self ..)).keep X (fun d hd b' hb' => ?_) (fun b' hb' => h.fresh b' (by omega)) h.ids⟩
  have : b' ≠ b := fun e => hap d hd (by rw [← e]; exact hb')
  exact ⟨hne b' this, rfl⟩
inductive Unmark : List ADef → List Chunk → List Chunk → Prop where
  | nil (A : List Chunk) : Unmark [] A A
  | cons {o : Nat} {ds : List ADef} {A A1 B : List Chunk} (p : A.Perm (.db o :: A1)) (h : Unmark ds A1 B) : Unmark (.mark o :: ds) A B
theorem Unmark.sound {fn : Func} {R : Ending → World → Prop} {F : List Chunk} {e : Env} {u : FrameMode} (hu : u ≠ .run) : ∀ {ads : List ADef} {A B : List Chunk}, Unmark ads A B → ∀ (ds : List Deferred) (I : Info) (w : World) (a : Act), Inv I (A ++ F) w → RelS N I w ⟨e, ads, A⟩ a → a.defers = ds →
    (∀ w', Ext I w I w' → Inv I (B ++ F) w' → RelS N I w' ⟨e, [], B⟩ { a with defers := [] } → LeavesIn (cl none) 0 P fn a.tmps R [] u w') → LeavesInM (cl none) 0 P fn a.tmps R ds u w := by
  intro ads A B h
  induction h with
  | nil A =>
    intro ds I w a hI hS hd k
    have := cA hS.ds
    rw [hd] at this
    subst this
    have := k w (bE _ _) hI ⟨hS.size, hS.env, .nil⟩
    exact this
  | @cons o ads' A' A1 B' p h ih =>
    intro ds I w a hI hS hd k
    have hds := hS.ds
    rw [hd] at hds
    cases hds with
    | cons hm hds =>
      rename_i d ds'
      cases hm with
      | mark o b ho =>
        have hI1 : Inv I (.db o :: (A1 ++ F)) w := hI.perm (p.append_right F)
        obtain ⟨b', ho', he, hh⟩ := hI1.holds _ (List.mem_cons_self ..)
        rw [ho] at ho'; cases ho'
        obtain ⟨X, hI2⟩ := hI1.lose (w' := w.putObj b (.deferred none)) (b := b) ho he (fun _ _ _ e => by rw [hh] at e; cases e) rfl rfl rfl (by simp) (fun b' hb' => World.putObj_heap_other hb');refine ⟨hu, .inl ⟨b, w.putObj b (.deferred none), rfl, run_takeDeferred hh, ?_⟩⟩;exact ih ds' I _ { a with defers := ds' } hI2 ⟨hS.size, (hS.mono X).env, hds.mono X⟩ rfl (fun w' X' hI' hS' => k w' (X.trans X') hI' hS')
theorem WK.atT {e l : Env} {ds : List ADef} {A B C : List Chunk} (m : Nat) (is : List Nat) (h : Env.le e l) (p : gA (A.take m) is = some (B, C)) : WK N ⟨e, ds, A⟩ ⟨l, ds, B ++ A.drop m⟩ := fun F I w a hI hS =>
  ⟨I, bE _ _, by
    have hp := cm is _ _ _ p
    have h0 : A = A.take m ++ A.drop m := (List.take_append_drop m A).symm
    have h1 : (A ++ F).Perm ((B ++ A.drop m) ++ (C ++ F)) := by
      have h2 : (A.take m ++ A.drop m).Perm (B ++ A.drop m ++ C) := by
        refine (hp.append_right (A.drop m)).trans ?_
        rw [List.append_assoc, List.append_assoc]
        exact List.Perm.append_left B List.perm_append_comm
      rw [← h0] at h2
      have := h2.append_right F
      simpa using this
    have h3 := hI.perm h1
    exact h3.sub (List.Sublist.append_left (List.sublist_append_right C F) _), ⟨hS.size, fun t => (h.ev t).rel (hS.env t), hS.ds⟩⟩
theorem Sub.atT {A B C : List Chunk} (m : Nat) (is : List Nat) (p : gA (A.take m) is = some (B, C)) : Sub (B ++ A.drop m) A := by
  have hp := cm is _ _ _ p
  have h2 : (B ++ A.drop m ++ C).Perm (A.take m ++ A.drop m) := by
    refine List.Perm.symm ((hp.append_right (A.drop m)).trans ?_)
    rw [List.append_assoc, List.append_assoc]
    exact List.Perm.append_left B List.perm_append_comm
  rw [List.take_append_drop] at h2
  obtain ⟨D, h1, h2⟩ := List.exists_perm_sublist (List.sublist_append_left (B ++ A.drop m) C) h2;exact ⟨D, h1, h2⟩
theorem Unmark.at {o : Nat} {ds : List ADef} {A B : List Chunk} (i : Nat) (h : A[i]? = some (.db o)) (k : Unmark ds (A.eraseIdx i) B) : Unmark (.mark o :: ds) A B := .cons (ja A i _ h) k
end
end Go.Av
namespace Go.Av
open Go.RowKit Go.Pv
section
variable {P : Program} {I : Info} {w w' : World} {A F : List Chunk}
theorem md {l : List UInt8} {xs : List Value} (h : RelL I w (Enc.byte.fl l) xs) (i : Nat) (hi : i < l.length) : xs.getD i undef = .int .u8 ((Go.Lib.numsL l).getD i 0) := by
  rw [lm] at h
  have h1 := h.2 i (by simpa using hi)
  simp only [List.getElem_map] at h1
  have := bS h1
  rw [this]
  simp [Go.Lib.numsL, List.getD, hi]
theorem kG {l : List UInt8} {t : Option Nat} {v : Value} (h : Rel I w (slE Enc.byte l t) v) : ∃ a cap, v = .slice a l.length cap ∧ l.length ≤ cap ∧ Go.Lib.BytesIn w a l.length (Go.Lib.numsL l) ∧
    (l ≠ [] → ∃ b o, a = some ⟨b, o, none⟩ ∧ ∀ i, i < l.length → w.cell? ⟨b, o + i, none⟩ = some (.int .u8 ((Go.Lib.numsL l).getD i 0))) := by
  obtain ⟨a, cap, xs, e1, hcap, hrl, hor⟩ := ix h
  have hfl : (Enc.byte.fl l).length = l.length := by rw [lm]; simp
  have hc : l ≠ [] → ∃ b o, a = some ⟨b, o, none⟩ ∧ ∀ i, i < l.length → w.cell? ⟨b, o + i, none⟩ = some (.int .u8 ((Go.Lib.numsL l).getD i 0)) := by
    intro hne
    rcases hor with h0 | ⟨b, o, ha, _, hc⟩
    · exact absurd (List.eq_nil_of_length_eq_zero h0) hne
    · exact ⟨b, o, ha, fun i hi => by rw [hc i (by rw [hfl]; exact hi), md hrl i hi]⟩
  refine ⟨a, cap, e1, hcap, ?_, hc⟩
  by_cases hne : l = []
  · subst hne; exact fun h => absurd h (Nat.lt_irrefl 0)
  · exact fun _ => hc hne
theorem Inv.new_tok (hI : Inv I A w) (hb : Below w.heap.size w w') {g n c : Nat} {arr : List Value} {E : TypeId} {fz : Nat × Nat} (hg : w.heap.size ≤ g) (hh : w'.heap[g]? = some (.cells arr.toArray E fz)) (hf : fz.1 = fz.2 ∨ arr.length ≤ fz.1) (hc : arr.length = c) (hn : n ≤ c) :
    ∃ t, Ext I w (I.putTok t g n c) w' ∧ Inv (I.putTok t g n c) (.tok t E :: A) w' := by
  obtain ⟨t, ht⟩ := hI.fresh_tok;obtain ⟨X0, hI'⟩ := Inv.below hI hb
  have hgf : I.ext g = some 0 := hI.fresh g hg
  have X : Ext I w (I.putTok t g n c) w' := by
    refine ⟨X0.os, X0.tape, X0.out, X0.size, fun b' hb' => ?_, fun b' j hj => ?_, fun b' k hk => ?_, fun o' b' h => h, fun s y hy => ?_, X0.elem⟩
    · have hb2 : b' ≠ g := fun e => by rw [e, hgf] at hb'; cases hb'
      exact ⟨(X0.blk b' hb').1, by simp only [Info.putTok]; rw [if_neg hb2]; exact hb'⟩
    · exact X0.cell b' j hj
    · intro k' hk'
      simp only [Info.putTok] at hk'
      split at hk'
      · rename_i e; subst e; cases hk'; have := hk 0 hgf; omega
      · exact hk k' hk'
    · simp only [Info.putTok]; rw [if_neg (fun e => by rw [e, ht] at hy; cases hy)]; exact hy
  have hlt : ∀ c' ∈ A, ∀ b, c'.blk I = some b → b ≠ g := fun c' hc' b hb' e => by
    have := (hI.holds c' hc').blk_lt hb'; omega
  have X2 : Ext I w' (I.putTok t g n c) w' := by
    refine ⟨rfl, rfl, rfl, Nat.le_refl _, fun b' hb' => ?_, fun b' j hj => rfl, X.ext, fun o' b' h => h, X.tok, fun _ _ h => h⟩
    have hb2 : b' ≠ g := fun e => by rw [e, hgf] at hb'; cases hb'
    exact ⟨rfl, by simp only [Info.putTok]; rw [if_neg hb2]; exact hb'⟩
  have K : Inv (I.putTok t g n c) A w' := by
    refine hI'.keep X2 (fun c' hc' b hb' => ⟨rfl, by simp only [Info.putTok]; rw [if_neg (hlt c' hc' b hb')]⟩) (fun b hb' => ?_) ?_
    · have hb2 : b ≠ g := fun e => by
        have := (Array.getElem?_eq_some_iff.1 hh).1; omega
      simp only [Info.putTok]; rw [if_neg hb2]; exact hI'.fresh b hb'
    · obtain ⟨k, hk⟩ := hI.ids
      refine ⟨max k (t + 1), fun x hx => ?_⟩
      have := hk x (by omega)
      refine ⟨this.1, ?_⟩
      simp only [Info.putTok]; rw [if_neg (by omega)]; exact this.2
  refine ⟨t, X, K.cons ⟨some g, n, c, by simp [Info.putTok], fun e => (by cases e), fun b e => ?_⟩ ?_⟩
  · cases e
    exact ⟨by simp [Info.putTok], hn, arr, ⟨E, fz, hh, by rw [hc] at hf ⊢; exact hf⟩, hc, arr.toArray, fz, hh⟩
  · intro b hb' d hd e
    simp only [Chunk.blk, Info.putTok, if_true, Option.bind_some, Option.some.injEq] at hb'
    have := ((hI'.holds d hd).keep X2 (fun b' hb'' => ⟨rfl, by simp only [Info.putTok]; rw [if_neg (hlt d hd b' hb'')]⟩)).2
    rw [this] at e
    exact hlt d hd b e hb'.symm
variable {e : Env} {d : Option Nat} {T : TypeId} {pos : String} {after : Array Edge} {g : Option (Nat × Bool)} {x y : Operand}
end
section
variable {P : Program} {f : FuncId}
end
section
variable {P : Program}
variable {e : Env} {d : Option Nat} {T : TypeId} {pos : String} {after : Array Edge} {g : Option (Nat × Bool)} {x y : Operand} {A : List Chunk}
end
end Go.Av
namespace Go.Av
open Go.RowKit Go.Pv
section
variable {P : Program} {I : Info} {w : World} {e : Env} {d : Option Nat} {T : TypeId} {pos : String} {after : Array Edge} {g : Option (Nat × Bool)} {x y : Operand} {A : List Chunk}
theorem kL {p q : Nat → Option (Nat × Nat)} : ∀ (parts : List (Nat × Value)) (cs : Array Value), (∀ r ∈ parts, p r.1 = q r.1) → Instr.fill p cs parts = Instr.fill q cs parts
  | [], _, _ => rfl
  | (i, v) :: rest, cs, h => by
    have h0 := h (i, v) (List.mem_cons_self ..)
    simp only at h0
    have ih := fun cs => kL (p := p) (q := q) rest cs (fun r hr => h r (List.mem_cons_of_mem _ hr))
    simp only [Instr.fill, h0]
    cases q i with
    | none => rfl
    | some r => simp only [ih]
theorem ne {El bytes k n : Nat} {parts : Array (Nat × Operand)} {zs : List Value} {cs : List AV} {T2 : TypeId} {ρ : Operand → Value} (hT : P.underlying T = some (.slice El)) (hE : ck P El = some (k, bytes)) (hz : zeroCells P El = some zs) (hn : Nat.ble (n * k) 16777216 = true)
    (hok : li e parts.toList = true) (hi : (parts.toList.all fun p => Nat.blt p.1 n) = true) (hf : ld ((List.range n).map fun i => (i * k, k)) ((gJ zs (n * k)).map AV.v) (parts.toList.map fun p => (p.1, opv e p.2)) = some cs) (hρ : ∀ x, Rel I w (opv e x) (ρ x)) :
    ∃ ys : List Value, (execOp ρ ⟨d, .buildSlice T n parts, T2, pos, after, g⟩).run P w = .ok (.value (.slice (some ⟨w.heap.size, 0, none⟩) n n)) (w.alloc (.cells ys.toArray El)) ∧ RelL I w cs ys := by
  obtain ⟨i, z, hin, hzi, hzs, hsz, hby⟩ := eU hE
  have hcz : bD P El = some k := by simp only [bD, hin, Option.map_some, hsz]
  have hzz : zs = z.cells.toList := by
    simp only [zeroCells, hin, Option.bind_some, hzi, Option.map_some, Option.some.injEq] at hz
    exact hz.symm
  have hti : (typeInfo El).run P w = .ok i w := by simp [typeInfo, program, hin, Sem.run]
  have hzv : (zeroValue El).run P w = .ok z w := by simp only [zeroValue, Sem.run_bind, hti, Result.andThen_ok, hzi, Sem.run_pure]
  obtain ⟨ys, hy, hyr⟩ := ke (I := I) (w := w) ((List.range n).map fun i => (i * k, k)) (parts.toList.map fun p => (p.1, opv e p.2)) (parts.toList.map fun p => (p.1, ρ p.2)) _ _ cs (by simp) (fun j hj => by
    have hj' : j < parts.toList.length := by simpa using hj
    simp only [List.getElem_map, List.map_map, List.getD, List.getElem?_map, aw hj', Option.map_some, Option.getD_some, Function.comp]
    refine gS (hρ _) ?_
    have h := List.all_eq_true.1 hok _ (List.getElem_mem hj')
    cases hc : br (opv e parts.toList[j].2) with
    | true => exact .inl rfl
    | false => rw [hc, Bool.false_or] at h; exact .inr (nu h)) (gV (gJ zs (n * k))) hf
  refine ⟨ys, ?_, hyr⟩
  have hpm : (parts.map fun (i, x) => (i, ρ x)).toList = parts.toList.map fun p => (p.1, ρ p.2) := by simp
  have hfill : Instr.fill (fun i => some (i * k, k)) (gJ zs (n * k)).toArray (parts.map fun (i, x) => (i, ρ x)).toList = some ys.toArray := by
    rw [hpm, ← hy]
    refine kL _ _ fun r hr => ?_
    obtain ⟨p, hp, rfl⟩ := List.mem_map.1 hr
    have hlt : p.1 < n := by
      have := List.all_eq_true.1 hi p hp
      exact aa this
    simp [hlt]
  have hle := aa hn
  have hz0 : (if n * k = 0 then (pure #[] : Sem (Array Value)) else do pure (← zeroValue El).cells).run P w = .ok (if n * k = 0 then #[] else z.cells) w := by
    split
    · rfl
    · simp only [Sem.run_bind, hzv, Result.andThen_ok, Sem.run_pure]
  have hrow : (Array.range (n * k)).map ((if n * k = 0 then #[] else z.cells)[· % (if n * k = 0 then #[] else z.cells).size]!) = (gJ zs (n * k)).toArray := by
    by_cases h0 : n * k = 0
    · simp [h0, gJ]
    · simp only [if_neg h0]
      have hk0 : 0 < z.cells.size := by
        rw [hzs]
        rcases Nat.eq_zero_or_pos k with h | h
        · rw [h, Nat.mul_zero] at h0; exact absurd rfl h0
        · exact h
      apply Array.ext'
      simp only [Array.toList_map, Array.toList_range, gJ, List.toList_toArray, hzz, Array.length_toList]
      refine List.map_congr_left fun j _ => ?_
      have hj : j % z.cells.size < z.cells.size := Nat.mod_lt _ hk0
      simp [List.getD, hj]
  simp only [execOp, Instr.buildSlice, Sem.run_bind, run_underlying hT, Result.andThen_ok, bH hcz, Sem.run_pure]
  rw [if_neg (by omega)]
  have hfill2 : Instr.fill (fun i => some (i * k, k)) (gJ zs (n * k)).toArray (parts.map fun x => (x.1, ρ x.2)).toList = some ys.toArray := hfill
  by_cases h0 : n * k = 0
  · rw [if_pos h0] at hrow
    rw [if_pos h0]
    simp only [Sem.run_bind, Sem.run_pure, Result.andThen_ok]
    rw [hrow]
    simp only [hfill2, newRow, Sem.run_bind, run_newObj_alloc, Result.andThen_ok, Sem.run_pure]
  · rw [if_neg h0] at hrow
    rw [if_neg h0]
    simp only [Sem.run_bind, hzv, Sem.run_pure, Result.andThen_ok]
    rw [hrow]
    simp only [hfill2, newRow, Sem.run_bind, run_newObj_alloc, Result.andThen_ok, Sem.run_pure]
theorem jR {α : Type} {E : Enc α} {l : List α} {El bytes n : Nat} {parts : Array (Nat × Operand)} {zs : List Value} {T2 : TypeId} (hT : P.underlying T = some (.slice El)) (hE : ck P El = some (E.k, bytes)) (hz : zeroCells P El = some zs) (hn : Nat.ble (n * E.k) 16777216 = true)
    (hok : li e parts.toList = true) (hi : (parts.toList.all fun p => Nat.blt p.1 n) = true) (hl : l.length = n) (hf : ld ((List.range n).map fun i => (i * E.k, E.k)) ((gJ zs (n * E.k)).map AV.v) (parts.toList.map fun p => (p.1, opv e p.2)) = some (E.fl l)) :
    OpR P ⟨d, .buildSlice T n parts, T2, pos, after, g⟩ e A (slE E l none) A := fun F I w ρ hI hρ => by
  obtain ⟨ys, hrun, hrl⟩ := ne (d := d) (T2 := T2) (pos := pos) (after := after) (g := g) hT hE hz hn hok hi hf hρ
  have X := hI.new_still (.cells ys.toArray El)
  refine ⟨_, .slice (some ⟨w.heap.size, 0, none⟩) n n, _, _, hrun, .inl rfl, X, hI.alloc_still _, ?_⟩
  unfold slE
  refine .sl E.k (E.fl l) none _ 0 _ _ (fun j => ys.getD j undef) E.pos (by rw [E.fl_length, hl]) (Nat.le_refl _) ?_ ?_ (hrl.mono X).2 (fun t h => by cases h)
  · intro m hm; simp [Info.still] at hm
  · intro j hj
    have hj' : j < ys.length := by rw [hrl.1]; exact hj
    rw [Nat.zero_add]
    simp only [World.cell?, bC]
    simp only [Option.isSome_none, Bool.false_eq_true, if_false, List.getElem?_toArray, List.getD, aw hj', Option.getD_some]
end
theorem nh {P : Program} {f : FuncId} {vs1 bs : List AV} {A : List Chunk} {R : AE → List Chunk → Prop} (h : WvL vs1 bs) (g : ACalls P f bs A R) : ACalls P f vs1 A R := fun F I w vs hI hv => g F I w vs hI (h.rel hv)
end Go.Av
namespace Go.Av
open Go.RowKit
theorem tabIs_of {P : Program} {I : Info} {A : List Chunk} {w : World} (hI : Inv I A w) {name : String} {g : Nat} {k : IntKind} {zs : List Int} (hn : P.globalNamed name = some g) (hG : G g = some [.tb (zs.map fun z => Value.int k z)]) : Go.Lib.TabIs P w name k zs := by
  have h : Rel I w (.tb _) _ := hI.glob g _ hG
  cases h with
  | tb _ _ E fz hb hst =>
    unfold Go.Lib.TabIs World.var?
    rw [hn]
    simp [hb]
theorem rel_tab {P : Program} {W : World} {name : String} {g : Nat} {k : IntKind} {zs : List Int} (hn : P.globalNamed name = some g) (h : Go.Lib.TabIs P W name k zs) : Rel (Info.start W) W (gv [.tb (zs.map fun z => Value.int k z)]) (.pointer (some ⟨g, 0, none⟩)) := by
  unfold Go.Lib.TabIs World.var? at h
  rw [hn] at h
  simp only [Option.bind_some] at h
  split at h
  · rename_i cs E fz hb
    cases h
    have hlt := (Array.getElem?_eq_some_iff.1 hb).1
    refine .tb _ g E fz hb ?_
    simp only [Info.start]
    rw [if_pos hlt]
  · cases h
end Go.Av
namespace Go.Av
open Go.RowKit
section
variable {F : Fence} {n : Nat} {P : Program}
def RoundEnd (P : Program) (l : Nat) (R : Ending → World → Prop) : Exit → Act → World → Prop
  | .panic c, a, w => a.defers = [] ∧ R (.panicked c) w
  | e, a, w => roundPost P l R e a w
theorem nT {l : Nat} {f : FuncId} {tmps : Array Value} {asg bd : Code} {w : World} {R : Ending → World → Prop} (hF : F.fn f) (hv : ∃ fn, P.funcs[f]? = some fn)
    (h : asg.wpIn (F.inRound l) n P (Exit.then (fun a₁ w₁ => ∃ w₂, (Instr.beginRound l).run P w₁ = .ok () w₂ ∧ bd.wpIn (F.inRound l) n P (RoundEnd P l R) a₁ w₂) (fun _ _ _ => False)) { tmps := tmps, defers := [] } w) :
    RoundIn F n P l f tmps asg bd w R := by
  refine ⟨hF, fun c cs hr => ?_⟩
  -- the frame
  obtain ⟨b, hb⟩ : ∃ b : Frame, b = { (default : Frame) with fn := f, kind := .normal, roundOf := some l } := ⟨_, rfl⟩
  have hround : b.roundOf = (F.inRound l).round := by rw [hb]; rfl
  have hfn : (F.inRound l).fn b.fn := by rw [hb]; exact hF
  have hroom : (F.inRound l).room ((c :: cs).length + 1 + n) := hr
  have hstart : Frame.round l f tmps asg bd .normal = b.atR { tmps := tmps, defers := [] } [.code asg, .beginRound, .code bd] := by rw [hb]; simp [Frame.round, Frame.atR]
  have hbr : b.roundOf = some l := by rw [hb]
  have hbk : b.kind = .normal := by rw [hb]
  rw [hstart]
  obtain ⟨e, a₁, w₁, hq, harr⟩ := h b [.beginRound, .code bd] (c :: cs) hround hfn hroom
  cases e with
  | normal =>
    obtain ⟨w₂, hbeg, hbody⟩ := hq
    have s0 := StepsIn.trans harr (.one (fenced_calm (fr := b.atR a₁ [.beginRound, .code bd]) hfn hroom rfl) (stepR_beginRound hbr hbeg))
    obtain ⟨e2, a₂, w₃, hq2, harr2⟩ := hbody b [] (c :: cs) hround hfn hroom
    cases e2 with
    | normal =>
      obtain ⟨v, w₄, hend, hR⟩ := hq2;exact ⟨.returned v, w₄, hR, s0.trans (StepsIn.trans harr2 (.one (fenced_calm (fr := b.atR a₂ []) hfn hroom rfl) (stepR_round_end hbr hbk hend)))⟩
    | ret =>
      obtain ⟨v, w₄, hend, hR⟩ := hq2;obtain ⟨k₁, hs⟩ := harr2.2 (by rw [hbr]; rfl);exact ⟨.returned v, w₄, hR, s0.trans (StepsIn.trans hs (.one (fenced_calm (fr := b.atR a₂ (.code .ret :: k₁)) hfn hroom rfl) (stepR_round_ret hbr hbk hend)))⟩
    | exit id =>
      obtain ⟨v, w₄, hend, hR⟩ := hq2;obtain ⟨k₁, hk, hs⟩ := harr2.2 (by rw [hbr]; rfl) rfl;exact ⟨.returned v, w₄, hR, s0.trans (StepsIn.trans hs (.one (fenced_calm (fr := b.atR a₂ (.code (.exit id) :: k₁)) hfn hroom rfl) (stepR_round_exit hbr hbk hk hend)))⟩
    | goto t =>
      obtain ⟨v, w₄, hend, hR⟩ := hq2;obtain ⟨k₁, hk, hs⟩ := harr2.2 (by rw [hbr]; rfl) rfl;exact ⟨.returned v, w₄, hR, s0.trans (StepsIn.trans hs (.one (fenced_calm (fr := b.atR a₂ (.code (.goto t) :: k₁)) hfn hroom rfl) (stepR_round_goto hbr hbk hk hend)))⟩
    | panic chain =>
      obtain ⟨hd, hR⟩ := hq2;obtain ⟨todo, hs⟩ := harr2
      have hl : Frame.leaving P ({ b.atR a₂ todo with mode := .panicking chain } : Frame) w₃ (.panicked chain) := ⟨rfl, hd, by rw [hb]; exact hv⟩
      exact ⟨.panicked chain, w₃, hR, s0.trans (StepsIn.trans hs (.one (fenced_leaving hfn hroom hl) (step_leave_panicked hl)))⟩
    | outgrown => exact hq2.elim
  | exit id => exact hq.elim
  | goto t => exact hq.elim
  | ret => exact hq.elim
  | panic chain => exact hq.elim
  | outgrown => exact hq.elim
def wpV (c : Code) (F : Fence) (n : Nat) (P : Program) (Q : Exit → Act → World → Prop) (a : Act) (w : World) : Prop :=
  ∀ (b : Frame) (k : List Item) (cs : List Frame), b.roundOf = F.round → F.fn b.fn → F.room (cs.length + 1 + n) → (∃ fn, P.funcs[b.fn]? = some fn) →
    ∃ e a' w', Q e a' w' ∧ ArrivesIn (Machine.fenced P F) P (lone (b.atR a (.code c :: k)) cs w) b k cs e a' w'
theorem wpV_of {c : Code} {Q : Exit → Act → World → Prop} {a : Act} {w : World} (h : c.wpIn F n P Q a w) : wpV c F n P Q a w := fun b k cs h1 h2 h3 _ => h b k cs h1 h2 h3
theorem wpV_seq {x y : Code} {Q : Exit → Act → World → Prop} {a : Act} {w : World} (h : wpV x F n P (Exit.then (fun a w => wpV y F n P Q a w) Q) a w) : wpV (.seq x y) F n P Q a w := by
  intro b k cs hro hb hr hv
  have h0 : (lone (b.atR a (.code (.seq x y) :: k)) cs w).fenced P F := fenced_calm hb hr rfl
  obtain ⟨e, a₁, w₁, hq, harr⟩ := h b (.code y :: k) cs hro hb hr hv
  have pass : e ≠ .normal → ArrivesIn (Machine.fenced P F) P (lone (b.atR a (.code (.seq x y) :: k)) cs w) b k cs e a₁ w₁ := fun he =>
    .of_steps (.one h0 stepR_seq) (.pass (x := .code y) rfl (fun _ _ => .inl he) harr)
  cases e with
  | normal =>
    obtain ⟨e₂, a₂, w₂, hq₂, harr₂⟩ := hq b k cs hro hb hr hv;exact ⟨e₂, a₂, w₂, hq₂, .of_steps (.head h0 stepR_seq harr) harr₂⟩
  | exit id => exact ⟨_, a₁, w₁, hq, pass (by simp)⟩
  | goto l => exact ⟨_, a₁, w₁, hq, pass (by simp)⟩
  | ret => exact ⟨_, a₁, w₁, hq, pass (by simp)⟩
  | panic ch => exact ⟨_, a₁, w₁, hq, pass (by simp)⟩
  | outgrown => exact ⟨_, a₁, w₁, hq, pass (by simp)⟩
theorem pK {id : Nat} {c : Code} {Q : Exit → Act → World → Prop} {a : Act} {w : World} (h : wpV c F n P (fun e a w => match e with | .exit _ => False | .goto _ => False | e => Q e a w) a w) : wpV (.block id c) F n P Q a w := by
  intro b k cs hro hb hr hv
  have h0 : (lone (b.atR a (.code (.block id c) :: k)) cs w).fenced P F := fenced_calm hb hr rfl
  obtain ⟨e, a₁, w₁, hq, harr⟩ := h b (.inBlock id :: k) cs hro hb hr hv
  cases e with
  | normal => exact ⟨.normal, a₁, w₁, hq, .head h0 stepR_block (StepsIn.trans harr (.one (fenced_calm hb hr rfl) stepR_inBlock))⟩
  | exit id => exact hq.elim
  | goto l => exact hq.elim
  | ret => exact ⟨_, a₁, w₁, hq, .of_steps (.one h0 stepR_block) harr⟩
  | panic ch => exact ⟨_, a₁, w₁, hq, .of_steps (.one h0 stepR_block) harr⟩
  | outgrown => exact ⟨_, a₁, w₁, hq, .of_steps (.one h0 stepR_block) harr⟩
theorem iL {c : Code} {Q Q' : Exit → Act → World → Prop} {a : Act} {w : World} (h : wpV c F n P Q a w) (hq : ∀ e a w, Q e a w → Q' e a w) : wpV c F n P Q' a w := fun b k cs h1 h2 h3 h4 =>
  let ⟨e, a', w', q, r⟩ := h b k cs h1 h2 h3 h4; ⟨e, a', w', hq _ _ _ q, r⟩
theorem pJ {g : Operand} {ps : Array Tmp} {asg bd : Code} {Q : Exit → Act → World → Prop} {a : Act} {w : World}
    (h : ∀ fn, F.fn fn → (∃ fd, P.funcs[fn]? = some fd) → ∃ (l : Nat) (mark : List Deferred) (w₁ : World) (d : Deferred) (w₁' : World) (f : FuncId) (args : Array Value) (w₂ : World),
      (Instr.enterLoop fn a.tmps ps asg bd F.round).run P w = .ok (l, mark) w₁ ∧ (resolve a.eval (rangeCall g l) 0).run P w₁ = .ok d w₁' ∧ (∀ f', Target.leads P w₁' d.target d.args = some f' → F.fn f') ∧
      (invoke d.target d.args).run P w₁' = .ok (.enter f args) w₂ ∧ (F.depth.isSome = true → 1 ≤ n) ∧ CallsIn F (n - 1) P f args w₂ fun e w₃ => match e with
        | .returned _ => ∃ jump w₄, (Instr.endLoop l).run P w₃ = .ok jump w₄ ∧ (match jump with | none => Q .normal { a with defers := mark ++ a.defers } w₄ | some c => c.wpIn F n P Q { a with defers := mark ++ a.defers } w₄)
        | .panicked chain => Q (.panic chain) { a with defers := mark ++ a.defers } w₃
        | .outgrown => False) : wpV (.rangeFunc g ps asg bd) F n P Q a w := by
  intro b k cs hro hb hr hv;obtain ⟨l, mark, w₁, d, w₁', f, args, w₂, he, hres, hlead, hinv, hn, hF, hcall⟩ := h b.fn hb hv
  rw [← hro] at he
  obtain ⟨a2, ha2⟩ : ∃ a2 : Act, a2 = { a with defers := mark ++ a.defers } := ⟨_, rfl⟩
  have h0 : (lone (b.atR a (.code (.rangeFunc g ps asg bd) :: k)) cs w).fenced P F := by
    refine fenced_lone (.inl hb) (fun f' hf' => hlead f' ?_) (Fence.room_le hr (by omega))
    have hev := Frame.eval_atR b a (.code (.rangeFunc g ps asg bd) :: k)
    simp only [Frame.about, Frame.atR] at hf' hev
    simp only [he, hev, hres] at hf'
    exact hf'
  have enter := stepR_rangeFunc (P := P) (b := b) (a := a) (k := k) (cs := cs) (w := w) he hres hinv
  have room1 : F.room ((b.atR { a with defers := mark ++ a.defers } (.inRangeFunc l :: k) :: cs).length + 1 + (n - 1)) := Fence.room_enter hr hn
  obtain ⟨e, w₃, fr, hR, hst, hfn, hlv⟩ := hcall (b.atR { a with defers := mark ++ a.defers } (.inRangeFunc l :: k) :: cs) room1
  cases e with
  | outgrown => exact hR.elim
  | panicked chain =>
    have hl : (lone fr (b.atR { a with defers := mark ++ a.defers } (.inRangeFunc l :: k) :: cs) w₃).fenced P F := fenced_leaving (hfn ▸ hF) room1 hlv
    refine ⟨.panic chain, _, w₃, hR, .inRangeFunc l :: k, .head h0 enter (StepsIn.trans hst (.one hl ?_))⟩
    rw [← Frame.raise_atR]; exact step_leave_panicked hlv
  | returned v =>
    have hl : (lone fr (b.atR { a with defers := mark ++ a.defers } (.inRangeFunc l :: k) :: cs) w₃).fenced P F := fenced_leaving (hfn ▸ hF) room1 hlv
    obtain ⟨jump, w₄, hend, hj⟩ := hR
    have back : StepsIn (Machine.fenced P F) P (lone (b.atR a (.code (.rangeFunc g ps asg bd) :: k)) cs w) (lone (b.atR { a with defers := mark ++ a.defers } ((jump.map Item.code).toList ++ k)) cs w₄) := by
      refine .head h0 enter (StepsIn.trans hst (.head hl ?_ (.one (fenced_calm (fr := b.atR { a with defers := mark ++ a.defers } (.endRangeFunc l :: k)) hb hr rfl) (stepR_endRangeFunc hend))))
      rw [← finish_atR_inRangeFunc l v]; exact step_leave_returned hlv
    cases jump with
    | none => exact ⟨.normal, _, w₄, hj, back⟩
    | some c =>
      obtain ⟨e', a'', w₅, hq, harr⟩ := hj b k cs hro hb hr;exact ⟨e', a'', w₅, hq, .of_steps back harr⟩
theorem om {f : FuncId} {fn : Func} {c : Code} {args : Array Value} {w : World} {R : Ending → World → Prop} (hf : P.funcs[f]? = some fn) (hb : fn.body = some c) (hF : F.fn f)
    (h : wpV c F n P (bodyPostM F n P fn R) { tmps := args ++ Array.replicate (fn.ntmps - args.size) undef, defers := [] } w) (hro : F.round = none := by rfl) : CallsIn F n P f args w R := by
  refine ⟨hF, fun cs hr => ?_⟩;obtain ⟨b, hbd⟩ : ∃ b : Frame, b = { (default : Frame) with fn := f, kind := .normal, roundOf := none } := ⟨_, rfl⟩
  have hstart : Frame.enter P f args .normal = b.atR { tmps := args ++ Array.replicate (fn.ntmps - args.size) undef, defers := [] } [.code c] := by rw [hbd]; simp [Frame.enter, Frame.atR, hf, hb]
  have hfn : P.funcs[b.fn]? = some fn := by rw [hbd]; exact hf
  have hFb : F.fn b.fn := by rw [hbd]; exact hF
  have hk : b.kind = .normal := by rw [hbd]
  have hbf : b.fn = f := by rw [hbd]
  obtain ⟨e, a', w', hq, harr⟩ := h b [] cs (by rw [hbd]; exact hro.symm) hFb hr ⟨fn, hfn⟩
  rw [← hstart] at harr
  have out : ∀ (u : FrameMode) (fr : Frame), fr.mode = u → fr.defers = a'.defers → fr.tmps = a'.tmps → fr.fn = b.fn → fr.kind = .normal → StepsIn (Machine.fenced P F) P (lone (Frame.enter P f args .normal) cs w) (lone fr cs w') →
      LeavesInM F n P fn a'.tmps R a'.defers u w' → ∃ e w' fr', R e w' ∧ ComesIn (Machine.fenced P F) P (lone (Frame.enter P f args .normal) cs w) (lone fr' cs w') e ∧ fr'.fn = f ∧ fr'.leaving P w' e := by
    intro u fr h1 h2 h3 h4 h5 hs hl;obtain ⟨e', w'', fr', hR, hs', hfn', hl'⟩ := leaves_stepsInM a'.defers u w' fr cs h1 h2 h3 (by rw [h4]; exact hfn) h5 (by rw [h4]; exact hFb) hr hl;exact ⟨e', w'', fr', hR, ComesIn.of_steps hs hs', by rw [hfn', h4, hbf], hl'⟩
  cases e with
  | normal => exact out .returning { b.atR a' [] with mode := .returning } rfl rfl rfl rfl hk (StepsIn.trans harr (.one (fenced_calm (fr := b.atR a' []) hFb hr rfl) (stepR_end (by rw [hbd])))) hq
  | ret =>
    obtain ⟨todo, hs⟩ := harr.1 (by rw [hbd]);exact out .returning { b.atR a' todo with mode := .returning } rfl rfl rfl rfl hk hs hq
  | panic chain =>
    obtain ⟨todo, hs⟩ := harr;exact out (.panicking chain) { b.atR a' todo with mode := .panicking chain } rfl rfl rfl rfl hk hs hq
  | exit id => exact hq.elim
  | goto l => exact hq.elim
  | outgrown => exact ⟨.outgrown, w', b, hq, harr.resolve_left (by rw [hbd]; simp), by rw [hbd], trivial⟩
end
section
variable {P : Program} {N : Nat} {Q : cW}
def AWV (P : Program) (N : Nat) (c : Code) (Q : cW) (s : St) : Prop := ∀ F I w a, Inv I (s.A ++ F) w → RelS N I w s a → wpV c (cl none) 0 P (CQ N F I w Q) a w
theorem AWV.of {c : Code} {s : St} (h : AW P none N c Q s) : AWV P N c Q s := fun F I w a hI hS => wpV_of (h F I w a hI hS)
theorem AWV.seq {x y : Code} {s : St} (h : AWV P N x (Then (AWV P N y Q) Q) s) : AWV P N (.seq x y) Q s := fun F I w a hI hS => by
  refine wpV_seq (iL (h F I w a hI hS) fun e a' w' hq => ?_);obtain ⟨I', s', E, hI', hS', hq⟩ := hq
  cases e with
  | normal => exact iL (hq F I' w' a' hI' hS') fun _ _ _ => cb E fun _ _ h => h
  | _ => exact ⟨I', s', E, hI', hS', hq⟩
def NoJump (Q : cW) : cW
  | .exit _, _ => False
  | .goto _, _ => False
  | e, s => Q e s
theorem AWV.block {id : Nat} {c : Code} {s : St} (h : AWV P N c (NoJump Q) s) : AWV P N (.block id c) Q s := fun F I w a hI hS => by
  refine pK (iL (h F I w a hI hS) fun e a' w' hq => ?_);obtain ⟨I', s', E, hI', hS', hq⟩ := hq
  cases e with
  | exit id => exact hq.elim
  | goto l => exact hq.elim
  | _ => exact ⟨I', s', E, hI', hS', hq⟩
def oo {σ τ : Type} (pc : List PanicEntry) (T : σ → τ → List Chunk) (J : σ → Option Code) (rv : σ × Option Bool) : cW
  | .normal, s => rv.2 = some true ∧ J rv.1 = none ∧ ∃ t', Sub (T rv.1 t') s.A
  | .ret, s => rv.2 = some false ∧ J rv.1 = some .ret ∧ ∃ t', Sub (T rv.1 t') s.A
  | .exit id, s => rv.2 = some false ∧ J rv.1 = some (.exit id) ∧ ∃ t', Sub (T rv.1 t') s.A
  | .goto l, s => rv.2 = some false ∧ J rv.1 = some (.goto l) ∧ ∃ t', Sub (T rv.1 t') s.A
  | .panic c, s => rv.2 = none ∧ c = pc ∧ s.ds = [] ∧ ∃ t', Sub (T rv.1 t') s.A
  | .outgrown, _ => False
def outc (pc : List PanicEntry) : Option Bool → AE
  | some b => .ret (.v (.bool b))
  | none => .pan pc
def outT {σ τ : Type} (T' Tp : σ → τ → List Chunk) (rv : σ × Option Bool) (t : τ) : List Chunk := match rv.2 with
  | some _ => T' rv.1 t
  | none => Tp rv.1 t
theorem ou {α σ τ : Type} {gf : Operand} {ps : Array Tmp} {asg bd : Code} {fs cs : List AV} {e : Env} {ds : List ADef} {A Own C B Own1 : List Chunk} (pc : List PanicEntry)
    (enc : α → List AV) (T : σ → τ → List Chunk) (J : σ → Option Code) (k : σ → α → Option (σ × Option Bool)) (s₀ : σ) (t₀ : τ) (s₁ : σ) (b₁ : Bool) (io it : List Nat) {f : FuncId}
    (hg : opv e gf = .fn (.func f) fs cs) (hf : ∀ args w, (callFunc f args).run P w = .ok (.enter f args) w) (hps : ∀ x, (enc x).length = ps.size) (hN : ∀ p ∈ ps.toList, p < N)
    (p1 : gA A io = some (Own, C)) (p2 : gA C it = some (T s₀ t₀, B)) (hJ : J s₀ = none)
    (hiter : ∀ (o : Nat) (T' Tp : σ → τ → List Chunk), (∀ s t x rv, k s x = some rv → gL P o (enc x) (T' s t) fun ae A' => ∃ t', ae = outc pc rv.2 ∧ A' = outT T' Tp rv t') →
      ACalls P f (fs ++ [.yl o] ++ cs) (Own ++ T' s₀ t₀) fun ae A' => ∃ t₁, (b₁ = false ∧ ae = .ret (.tup []) ∧ A' = Own1 ++ T' s₁ t₁) ∨ (b₁ = true ∧ ae = .pan pc ∧ (A' = T' s₁ t₁ ∨ A' = Tp s₁ t₁)))
    (hround : ∀ l s t x rv, k s x = some rv → J s = none ∧ AW P (some l) N asg (NoExit (AW P (some l) N bd (oo pc T J rv))) ⟨kT (ps.toList.zip (enc x)) e, [], T s t⟩)
    (kp : b₁ = true → ∀ o2 t₁, Q (.panic pc) ⟨e, .mark o2 :: ds, .db o2 :: (T s₁ t₁ ++ B)⟩)
    (kk : b₁ = false → ∀ o2 t₁, match J s₁ with
      | none => Q .normal ⟨e, .mark o2 :: ds, .db o2 :: (Own1 ++ (T s₁ t₁ ++ B))⟩
      | some c => AW P none N c Q ⟨e, .mark o2 :: ds, .db o2 :: (Own1 ++ (T s₁ t₁ ++ B))⟩) :
    AWV P N (.rangeFunc gf ps asg bd) Q ⟨e, ds, A⟩ := fun F I w a hI hS => by
  have hp : A.Perm (Own ++ (T s₀ t₀ ++ B)) := (cm io _ _ _ p1).trans ((cm it _ _ _ p2).append_left Own)
  refine pJ fun fn hfn hval => ?_
  obtain ⟨xs, ys, hv, hxs, hys⟩ := nA (hg ▸ hS.op gf);obtain ⟨l, b, o2, o1, w1, I1, hrun, E1, ho1, ho2, hI1⟩ := jk (P := P) (fn := fn) (ps := ps) (asg := asg) (bd := bd) (env := fun t => ev e t) hI hS.size hS.env
  have hS1 := hS.mono E1
  have he : xs.toArray ++ #[Value.func (.yield l) #[] #[]] ++ ys.toArray = (xs ++ [Value.func (.yield l) #[] #[]] ++ ys).toArray := by apply Array.ext'; simp
  refine ⟨l, _, w1, { target := .fn (.func f) ys.toArray, args := xs.toArray ++ #[Value.func (.yield l) #[] #[]] }, w1, f, (xs ++ [Value.func (.yield l) #[] #[]] ++ ys).toArray, w1, hrun, ?_, fun _ _ => cj _, ?_, jb, ?_⟩
  · have := gH (P := P) (ρ := a.eval) (args := #[.const (.func (.yield l) #[] #[])]) (argTypes := #[]) (T := 0) (w := w1) hv
    simpa [rangeCall, Act.eval] using this
  · simp only [invoke, he]
    exact hf _ _
  -- the record's chunk
  obtain ⟨LP, hLP⟩ : ∃ LP : LoopState → Option Code → Chunk, LP = fun st j => .lp o1 st j fn N (fun t => ev e t) ps asg bd o2 := ⟨_, rfl⟩
  obtain ⟨T', hT'⟩ : ∃ T' : σ → τ → List Chunk, T' = fun s t => LP (if (J s).isNone then .ready else .done) (J s) :: T s t := ⟨_, rfl⟩
  obtain ⟨Tp, hTp⟩ : ∃ Tp : σ → τ → List Chunk, Tp = fun s t => LP .busy none :: T s t := ⟨_, rfl⟩
  have hY : ∀ s t x rv, k s x = some rv → gL P o1 (enc x) (T' s t) fun ae A' => ∃ t', ae = outc pc rv.2 ∧ A' = outT T' Tp rv t' := by
    intro s t x rv hk F' I' w' vs l' hI' hol hrl;obtain ⟨hJs, hwalk⟩ := hround l' s t x rv hk
    have hT0 : T' s t = LP .ready none :: T s t := by rw [hT']; simp [hJs]
    rw [hT0] at hI'
    rw [hLP] at hI'
    obtain ⟨tmps, hyr, hts, htr⟩ := my (P := P) (A := T s t ++ F') hI' hol vs.toArray (by rw [List.size_toArray, hrl.1]; exact hps x);refine ⟨fn, _, asg, bd, hyr, nT hfn hval ?_⟩
    have hlen : vs.length = ps.toList.length := by rw [hrl.1, hps x]; simp
    have hzip : (ps.zip vs.toArray).toList = ps.toList.zip vs := by simp
    have hfold : (ps.zip vs.toArray).foldl (fun tmps p => tmps.setIfInBounds p.1 p.2) tmps = (ps.toList.zip vs).foldl (fun tmps p => tmps.setIfInBounds p.1 p.2) tmps := by
      rw [← hzip, Array.foldl_toList]
    have hput := jw (N := N) (ps.toList.zip vs) (ps.toList.zip (enc x)) e tmps hts htr
      (by rw [List.map_fst_zip (by omega), List.map_fst_zip (by have := hps x; simp; omega)])
      (fun q hq => hN _ (List.of_mem_zip hq).1)
      (by rw [List.map_snd_zip (by have := hps x; simp; omega), List.map_snd_zip (by omega)]; exact hrl)
    have hIp : Inv I' (T s t ++ (LP .ready none :: F')) w' := by
      rw [hLP]
      refine hI'.perm ?_;exact (bz).symm
    have hSr : RelS N I' w' ⟨kT (ps.toList.zip (enc x)) e, [], T s t⟩ { tmps := (ps.zip vs.toArray).foldl (fun tmps (p : Nat × Value) => tmps.setIfInBounds p.1 p.2) tmps, defers := [] } := by
      refine ⟨(congrArg Array.size hfold).trans hput.1, fun t0 => ?_, .nil⟩
      have h0 := hput.2 t0
      rw [← hfold] at h0
      exact h0
    refine wpIn_mono (hwalk (LP .ready none :: F') I' w' _ hIp hSr) fun e1 a1 w1' hq1 => ?_
    obtain ⟨I2, s2, E2, hI2, hS2, hq1⟩ := hq1
    cases e1 with
    | normal =>
      have hI2p : Inv I2 (.lp o1 .ready none fn N (fun t => ev e t) ps asg bd o2 :: (s2.A ++ F')) w1' := by
        refine hI2.perm ?_
        rw [hLP]
        exact bz
      obtain ⟨w2, hbr, E3, hI3⟩ := iz (P := P) hI2p (E2.obj _ _ hol);refine ⟨w2, hbr, ?_⟩
      have hI3p : Inv I2 (s2.A ++ (.lp o1 .busy none fn N (fun t => ev e t) ps asg bd o2 :: F')) w2 := hI3.perm (bz).symm
      refine wpIn_mono (hq1 _ I2 w2 a1 hI3p (hS2.mono E3)) fun e3 a3 w3 hq3 => ?_
      obtain ⟨I4, s4, E4, hI4, hS4, hq3⟩ := hq3
      have hol4 := E4.obj _ _ (E3.obj _ _ (E2.obj _ _ hol))
      have E14 := (E2.trans E3).trans E4
      have lpfront : ∀ t', Sub (T rv.1 t') s4.A → Inv I4 (.lp o1 .busy none fn N (fun t => ev e t) ps asg bd o2 :: (T rv.1 t' ++ F')) w3 := fun t' hsub => (hsub.inv hI4).perm bz
      have fin : ∀ (jump : Option Code) (t' : τ), J rv.1 = jump → Sub (T rv.1 t') s4.A → rv.2 = some jump.isNone →
          ∃ v w5, (Instr.endRound l' jump).run P w3 = .ok v w5 ∧ ∃ I5 ae A', Ext I' w' I5 w5 ∧ Inv I5 (A' ++ F') w5 ∧ kW I5 w5 ae (.returned v) ∧ ∃ t', ae = outc pc rv.2 ∧ A' = outT T' Tp rv t' := by
        intro jump t' hj hsub hr;obtain ⟨w5, hend, E5, hI5⟩ := jQ (P := P) (lpfront t' hsub) hol4 jump;refine ⟨_, w5, hend, I4, .ret (.v (.bool jump.isNone)), T' rv.1 t', E14.trans E5, ?_, .v _, t', by rw [hr]; rfl, by simp only [outT, hr]⟩
        have : T' rv.1 t' = .lp o1 (if jump.isNone then .ready else .done) jump fn N (fun t => ev e t) ps asg bd o2 :: T rv.1 t' := by rw [hT', hLP, ← hj]
        rw [this]
        exact hI5
      cases e3 with
      | normal => obtain ⟨hr, hj, t', hsub⟩ := hq3; exact fin none t' hj hsub hr
      | ret => obtain ⟨hr, hj, t', hsub⟩ := hq3; exact fin (some .ret) t' hj hsub hr
      | exit id => obtain ⟨hr, hj, t', hsub⟩ := hq3; exact fin (some (.exit id)) t' hj hsub hr
      | goto q => obtain ⟨hr, hj, t', hsub⟩ := hq3; exact fin (some (.goto q)) t' hj hsub hr
      | panic c =>
        obtain ⟨hr, hc, hds, t', hsub⟩ := hq3;subst hc
        have hdn : a3.defers = [] := cA (hds ▸ hS4.ds)
        refine ⟨hdn, I4, .pan c, Tp rv.1 t', E14, ?_, rfl, t', by rw [hr]; rfl, by simp only [outT, hr]⟩
        have : Tp rv.1 t' = .lp o1 .busy none fn N (fun t => ev e t) ps asg bd o2 :: T rv.1 t' := by rw [hTp, hLP]
        rw [this]
        exact lpfront t' hsub
      | outgrown => exact hq3.elim
    | _ => exact hq1.elim
  -- the one call
  have hT0 : T' s₀ t₀ = LP .ready none :: T s₀ t₀ := by rw [hT']; simp [hJ]
  have hI1p : Inv I1 ((Own ++ T' s₀ t₀) ++ (.db o2 :: (B ++ F))) w1 := by
    refine hI1.perm ?_
    rw [hT0, hLP]
    have h1 : (A ++ F).Perm (Own ++ (T s₀ t₀ ++ (B ++ F))) := by
      refine (hp.append_right F).trans (List.Perm.of_eq ?_)
      simp
    refine ((h1.cons _).cons _).trans ?_;exact (List.Perm.of_eq (by simp)).trans (jZ _ _ Own (T s₀ t₀) (B ++ F)).symm
  have hrl : RelL I1 w1 (fs ++ [.yl o1] ++ cs) (xs ++ [Value.func (.yield l) #[] #[]] ++ ys) :=
    ((hxs.mono E1).append (cX (.yl o1 l ho1) dj)).append (hys.mono E1)
  refine (AO.call.callsIn_wide').2 ((hiter o1 T' Tp hY _ I1 w1 _ hI1p hrl).mono fun en w2 ⟨I2, ae, A', E2, hI2, hre, t₁, hcase⟩ => ?_)
  have E12 := E1.trans E2
  have hmk : ∀ w3, Ext I2 w2 I2 w3 → ∀ A2, RelS N I2 w3 ⟨e, .mark o2 :: ds, A2⟩ { a with defers := [{ target := .collected b, args := #[] }] ++ a.defers } := fun w3 E3 A2 =>
    ⟨hS.size, ((hS1.mono E2).mono E3).env, .cons (.mark o2 b (E3.obj _ _ (E2.obj _ _ ho2))) ((hS1.mono E2).mono E3).ds⟩
  rcases hcase with ⟨hb1, hae, hA'⟩ | ⟨hb1, hae, hA'⟩
  · subst hae
    cases en with
    | returned v =>
        have hA2 : A' = Own1 ++ (LP (if (J s₁).isNone then .ready else .done) (J s₁) :: T s₁ t₁) := by rw [hA', hT']
        rw [hA2, hLP] at hI2
        have hI2p : Inv I2 (.lp o1 (if (J s₁).isNone then .ready else .done) (J s₁) fn N (fun t => ev e t) ps asg bd o2 :: (.db o2 :: (Own1 ++ (T s₁ t₁ ++ B)) ++ F)) w2 := by
          refine hI2.perm ?_;exact (jZ _ _ Own1 (T s₁ t₁) (B ++ F)).trans (List.Perm.of_eq (by simp))
        obtain ⟨w3, hend, E3, hI3⟩ := kE (P := P) hI2p (E2.obj _ _ ho1) (by split <;> simp)
        have hS3 := hmk w3 E3 (.db o2 :: (Own1 ++ (T s₁ t₁ ++ B)))
        have hk := kk hb1 o2 t₁
        refine ⟨_, w3, hend, ?_⟩
        cases hj : J s₁ with
        | none => rw [hj] at hk; exact ⟨I2, _, E12.trans E3, hI3, hS3, hk⟩
        | some c => rw [hj] at hk; exact wpIn_mono (hk F I2 w3 _ hI3 hS3) fun _ _ _ => cb (E12.trans E3) fun _ _ h => h
    | panicked c => exact hre.elim
    | outgrown => exact hre.elim
  · subst hae
    cases en with
    | returned v => exact hre.elim
    | outgrown => exact hre.elim
    | panicked c =>
      cases hre
      have hS3 := hmk w2 (bE _ _) (.db o2 :: (T s₁ t₁ ++ B))
      have hk := kp hb1 o2 t₁
      refine ⟨I2, _, E12, ?_, hS3, hk⟩
      have drop : ∀ c : Chunk, Inv I2 ((c :: T s₁ t₁) ++ (.db o2 :: (B ++ F))) w2 → Inv I2 ((.db o2 :: (T s₁ t₁ ++ B)) ++ F) w2 := fun c h => by
        have h1 := h.sub (List.sublist_cons_self ..)
        refine h1.perm ?_;exact (bz).trans (List.Perm.of_eq (by simp))
      rcases hA' with hA' | hA'
      · rw [hA', hT'] at hI2; exact drop _ hI2
      · rw [hA', hTp] at hI2; exact drop _ hI2
def qN (P : Program) (fn : Func) (N : Nat) (R : AE → List Chunk → Prop) : cW
  | .normal, s | .ret, s => ∃ B, Unmark s.ds s.A B ∧ ∃ av A', ResV P fn N ⟨s.env, [], B⟩ av ∧ Sub A' B ∧ R (.ret av) A'
  | .panic c, s => ∃ B, Unmark s.ds s.A B ∧ ∃ A', Sub A' B ∧ R (.pan c) A'
  | _, _ => False
theorem kr {f : FuncId} {fn : Func} {c : Code} {args : List AV} {A : List Chunk} {R : AE → List Chunk → Prop} (hf : P.funcs[f]? = some fn) (hb : fn.body = some c) (hl : Nat.ble args.length fn.ntmps = true)
    (h : AWV P fn.ntmps c (qN P fn fn.ntmps R) ⟨gG 0 args, [], A⟩) : ACalls P f args A R := fun F I w vs hI hv => by
  refine (callsIn_wide (n := 0)).1 (om (F := Fence.wide) hf hb trivial ?_)
  refine iL (h F I w _ hI (kx hv (aa hl))) fun e a w' hq => ?_
  obtain ⟨I', s', E, hI', hS', hq⟩ := hq
  have go : (∃ B, Unmark s'.ds s'.A B ∧ ∃ av A', ResV P fn fn.ntmps ⟨s'.env, [], B⟩ av ∧ Sub A' B ∧ R (.ret av) A') → LeavesInM (cl none) 0 P fn a.tmps (fun e w' => ∃ I' ae A', Ext I w I' w' ∧ Inv I' (A' ++ F) w' ∧ kW I' w' ae e ∧ R ae A') a.defers .returning w' := by
    rintro ⟨B, hu, av, A', hres, hsub, hR⟩
    refine Unmark.sound (N := fn.ntmps) (e := s'.env) (F := F) (by simp) hu a.defers I' w' a hI' hS' rfl fun w2 X hI2 hS2 => ?_
    obtain ⟨v, hrun, hv⟩ := hres F I' w2 { a with defers := [] } hI2 hS2;exact ⟨v, hrun, I', .ret av, A', E.trans X, hsub.inv hI2, hv, hR⟩
  cases e with
  | normal => exact go hq
  | ret => exact go hq
  | panic c =>
    obtain ⟨B, hu, A', hsub, hR⟩ := hq
    refine Unmark.sound (N := fn.ntmps) (e := s'.env) (F := F) (by simp) hu a.defers I' w' a hI' hS' rfl fun w2 X hI2 hS2 => ?_
    exact ⟨I', .pan c, A', E.trans X, hsub.inv hI2, rfl, hR⟩
  | exit id => exact hq.elim
  | goto l => exact hq.elim
  | outgrown => exact hq.elim
section
variable {ro : Option Nat} {ops : Array Oper}
theorem AO.callPanR {rest : List Nat} {d : Nat} {f : FuncId} {args : Array Operand} {argTypes : Array TypeId} {T : TypeId} {pos : String} {after : Array Edge} {g : Option (Nat × Bool)} {e : Env} {ds : List ADef} {A A1 B : List Chunk} {R : AE → List Chunk → Prop} {avs : List AV} (is : List Nat)
    (hd : Nat.blt d N = true) (hf : ∀ args w, (callFunc f args).run P w = .ok (.enter f args) w) (ha : args.toList.map (opv e) = avs)
    (h : ACalls P f avs A1 R) (p : gA A is = some (A1, B)) (hn : ∀ av A', R (.ret av) A' → False) (k : ∀ c A', R (.pan c) A' → Q (.panic c) ⟨e, ds, A' ++ B⟩) :
    AO P ro N ops Q rest ⟨some d, .call ⟨.value (.func f), args, argTypes⟩, T, pos, after, g⟩ ⟨e, ds, A⟩ :=
  AO.call B hd hf ha h (cm is _ _ _ p) (fun av A' h1 => (hn av A' h1).elim) k
end
section
variable {ops : Array Oper}
theorem AO.yieldOk {σ τ : Type} {T Tp : σ → τ → List Chunk} {pc : List PanicEntry} {rv : σ × Option Bool} {b : Bool} {rest : List Nat} {d : Nat} {x : Operand} {o : Nat} {args : Array Operand} {argTypes : Array TypeId} {Ty : TypeId} {pos : String} {after : Array Edge} {g : Option (Nat × Bool)} {e : Env} {ds : List ADef} {A : List Chunk} {avs : List AV}
    (m : Nat) (hd : Nat.blt d N = true) (hx : opv e x = .yl o) (ha : args.toList.map (opv e) = avs) (h : gL P o avs (A.drop m) fun ae A' => ∃ t', ae = outc pc rv.2 ∧ A' = outT T Tp rv t') (hr : rv.2 = some b)
    (k : ∀ t', AR P none N ops Q rest ⟨(d, .v (.bool b)) :: e, ds, A.take m ++ T rv.1 t'⟩) :
    AO P none N ops Q rest ⟨some d, .call ⟨.value x, args, argTypes⟩, Ty, pos, after, g⟩ ⟨e, ds, A⟩ :=
  AO.yield (A.take m) (A.drop m) hd hx ha (List.take_append_drop m A).symm h (fun av T' ⟨t', h1, h2⟩ => by
    rw [hr] at h1; cases h1
    have h3 : T' = T rv.1 t' := by rw [h2]; simp only [outT, hr]
    subst h3; exact k t') (fun c T' ⟨t', h1, _⟩ => by rw [hr] at h1; cases h1)
theorem AO.yieldPan {σ τ : Type} {T Tp : σ → τ → List Chunk} {pc : List PanicEntry} {rv : σ × Option Bool} {rest : List Nat} {d : Nat} {x : Operand} {o : Nat} {args : Array Operand} {argTypes : Array TypeId} {Ty : TypeId} {pos : String} {after : Array Edge} {g : Option (Nat × Bool)} {e : Env} {ds : List ADef} {A : List Chunk} {avs : List AV}
    (m : Nat) (hd : Nat.blt d N = true) (hx : opv e x = .yl o) (ha : args.toList.map (opv e) = avs) (h : gL P o avs (A.drop m) fun ae A' => ∃ t', ae = outc pc rv.2 ∧ A' = outT T Tp rv t') (hr : rv.2 = none)
    (k : ∀ t', Q (.panic pc) ⟨e, ds, A.take m ++ Tp rv.1 t'⟩) :
    AO P none N ops Q rest ⟨some d, .call ⟨.value x, args, argTypes⟩, Ty, pos, after, g⟩ ⟨e, ds, A⟩ :=
  AO.yield (A.take m) (A.drop m) hd hx ha (List.take_append_drop m A).symm h (fun av T' ⟨t', h1, h2⟩ => by rw [hr] at h1; cases h1) (fun c T' ⟨t', h1, h2⟩ => by
    rw [hr] at h1; cases h1
    have h3 : T' = Tp rv.1 t' := by rw [h2]; simp only [outT, hr]
    subst h3; exact k t')
end
theorem AWV.nil_objAt {c : Code} {e : Env} {ds : List ADef} {A : List Chunk} {o : Nat} {cs : List AV} (i j k : Nat) (Ty : TypeId) (hA : A[i]? = some (.obj o cs)) (hj : cs[j]? = some (.v (.slice none 0 0)))
    (h : ∀ t, AWV P N c Q ⟨e, ds, .tok t Ty :: A.set i (.obj o (cs.set j (.sl k [] (some t))))⟩) : AWV P N c Q ⟨e, ds, A⟩ := fun F I w a hI hS => by
  obtain ⟨t, I', E, hI'⟩ := Inv.nil_objAt hI i j k Ty hA hj
  exact iL (h t F I' w a hI' ⟨hS.size, (hS.mono E).env, (hS.mono E).ds⟩) fun _ _ _ => cb E fun _ _ h => h
end
end Go.Av
namespace Go.Av
open Go.RowKit
section
variable {P : Program} {A : List Chunk} {e : Env} {x y z : Operand} {d : Option Nat} {pos : String} {after : Array Edge} {g : Option (Nat × Bool)} {f : FuncId} {fn : Func} {ts : Array TypeId} {T2 : TypeId}
structure Ext0 (P : Program) (f : FuncId) (fn : Func) (ext : Array Value → Sem Value) : Prop where
  hf : P.funcs[f]? = some fn
  nm : (fn.name == "runtime.NumGoroutine") = false
  nb : fn.body.isNone = true
  nn : Extern.findNext fn = none
  he : Extern.find fn = some ext
theorem qj {I : Info} {w w' : World} {ρ : Operand → Value} {args : Array Operand} {r : Next} (hρ : ∀ x, Rel I w (opv e x) (ρ x)) (h : (callFunc f (args.map ρ)).run P w = .ok r w') :
    (execOp ρ ⟨d, .call ⟨.value (.func f), args, ts⟩, T2, pos, after, g⟩).run P w = .ok r w' := by
  have h0 := bS (hρ (.func f))
  simp only [execOp, resolve, h0, Deferred.ofValue, Sem.run_bind, Sem.run_pure, Result.andThen_ok, invoke]
  simp only [Array.empty_append, Array.append_empty]
  exact h
end
end Go.Av
namespace Go.Av
open Go.RowKit Go.Pv
theorem nU {I : Info} {A : List Chunk} {w w' : World} {l : List UInt8} {El : Nat} {v : Value} (hI : Inv I A w) (hb : Below w.heap.size w w') (h : w'.ownsRow w.heap.size El 1 v l.length ((Go.Lib.numsL l).map (Value.int .u8))) :
    ∃ t I', Ext I w I' w' ∧ Inv I' (.tok t El :: A) w' ∧ Rel I' w' (slE Enc.byte l (some t)) v := by
  obtain ⟨h1, h2⟩ := h
  rcases h2 with ⟨rfl, h2⟩ | ⟨g, cap, cur, hv, hg, hh, hn, hmax, hcs, htk⟩
  · have : l = [] := List.eq_nil_of_length_eq_zero h2
    subst this;obtain ⟨X, hI'⟩ := Inv.below hI hb;obtain ⟨t, ht⟩ := hI'.fresh_tok;obtain ⟨E, hI2⟩ := hI'.nil_tok ht El;exact ⟨t, _, X.trans E, hI2, .slnil _ _ (by simp [Info.nilTok])⟩
  · subst hv
    obtain ⟨t, X, hI'⟩ := hI.new_tok (n := l.length) (c := cap) (arr := cur.toList) hb hg (by simpa using hh) (.inl rfl) (by simpa using hcs) hn;refine ⟨t, _, X, hI', ?_⟩
    have hfl : (Enc.byte.fl l).length = l.length := by rw [lm]; simp
    unfold slE
    refine .sl 1 _ (some t) g 0 _ _ (fun j => ((Go.Lib.numsL l).map (Value.int .u8)).getD j undef) (by decide) (by rw [hfl, Nat.mul_one]) hn (fun m hm => ?_) (fun j hj => ?_) (fun j hj => ?_) (fun t' e => ?_)
    · simp only [Info.putTok, if_true, Option.some.injEq] at hm
      rw [hfl]; omega
    · rw [hfl] at hj
      rw [Nat.zero_add]
      have : cur.toList[j]? = ((Go.Lib.numsL l).map (Value.int .u8))[j]? := by
        rw [← htk, List.getElem?_take, if_pos (by omega)]
      simp only [World.cell?, hh, Option.isSome_none, Bool.false_eq_true, if_false]
      rw [← Array.getElem?_toList, this]
      simp [List.getD, hj, Go.Lib.numsL_length]
    · have hj' : j < l.length := by rw [hfl] at hj; exact hj
      have h3 : (Enc.byte.fl l)[j] = u8 l[j] := by simp only [lm, List.getElem_map]
      rw [h3]
      have h4 : ((Go.Lib.numsL l).map (Value.int .u8)).getD j undef = .int .u8 (l[j].toNat : Int) := by simp [List.getD, hj', Go.Lib.numsL]
      rw [h4]
      exact .v _
    · cases e
      exact ⟨by simp [Info.putTok, hfl], rfl⟩
section
variable {P : Program} {A : List Chunk} {e : Env} {x y : Operand} {d : Option Nat} {pos : String} {after : Array Edge} {g : Option (Nat × Bool)} {f : FuncId} {fn : Func} {ts : Array TypeId} {T2 : TypeId}
theorem lv (a : Option Addr) (cap : Nat) (cv : Int) (w : World) : (Extern.BytealgIndexByte.indexByte #[.slice a 0 cap, .int .u8 cv]).run P w = .ok (.int .i64 (-1)) w := by
  cases a with
  | none => exact Go.Lib.run_indexByteNil w 0 cap cv
  | some a =>
    have hs := Go.Lib.run_indexByteNil (P := P) w 0 cap cv
    exact hs
theorem mj {l : List UInt8} {t : Option Nat} {c : UInt8} (h : Ext0 P f fn Extern.BytealgIndexByte.indexByte) (hx : opv e x = slE Enc.byte l t) (hy : opv e y = u8 c) :
    OpR P ⟨d, .call ⟨.value (.func f), #[x, y], ts⟩, T2, pos, after, g⟩ e A (i64 (Go.Lib.indexByte l c)) A := fun F I w ρ hI hρ => by
  obtain ⟨a, cap, hv, hc, hb, hx1⟩ := kG (hx ▸ hρ x)
  have h2 := bS (hy ▸ hρ y)
  have key : (Extern.BytealgIndexByte.indexByte #[.slice a l.length cap, .int .u8 (c.toNat : Int)]).run P w = .ok (.int .i64 (Go.Lib.indexByte l c)) w := by
    by_cases hne : l = []
    · subst hne
      exact lv a cap _ w
    · obtain ⟨b, o, rfl, g1⟩ := hx1 hne
      rw [Go.Lib.run_indexByteSlice w b o l.length cap (Go.Lib.numsL l) (Go.Lib.numsL_length _) g1, Go.Lib.bytesOf_numsL]
      simp
  refine ⟨_, _, w, I, qj hρ (r := .value (.int .i64 (Go.Lib.indexByte l c))) ?_, .inl rfl, bE _ _, hI, .v _⟩
  rw [show (#[x, y].map ρ) = #[ρ x, ρ y] by simp, hv, h2, run_callFunc_extern h.hf h.nm h.nb h.nn h.he, key]
  rfl
end
section
variable {P : Program} {A : List Chunk} {e : Env} {x y : Operand} {d : Option Nat} {T T2 : TypeId} {pos : String} {after : Array Edge} {g : Option (Nat × Bool)}
theorem int_fl (l : List Int) : Enc.int.fl l = l.map fun n => i64 n := by
  induction l with
  | nil => rfl
  | cons a l ih => rw [Enc.fl_cons, ih]; rfl
theorem oa {l z : List Int} {pre post vs : List AV} {o off k n : Nat} {i v : Int} (hsz : bD P T = some 1) (hx : opv e x = .pt o (off + i.toNat)) (hy : opv e y = i64 v) (hA : A[k]? = some (.obj o (pre ++ (Enc.int.fl l ++ post)))) (hp : pre.length = off)
    (hl : l.length = n) (hg : bQ i n = true) (he : l.set i.toNat v = z) (hv : (List.range n).map (fun j => i64 (z.getD j 0)) = vs) :
    OpR P ⟨d, .store T x y, T2, pos, after, g⟩ e A .any (A.set k (.obj o (pre ++ (vs ++ post)))) := by
  obtain ⟨h1, h2⟩ := nC hg
  have hlt : i.toNat < l.length := by omega
  have hfl : (Enc.int.fl l).length = l.length := by rw [int_fl]; simp
  have h := aH (P := P) (d := d) (pos := pos) (after := after) (g := g) (T2 := T2) hsz hx hy rfl hA (by simp only [List.length_append, hfl, hp]; omega)
  have e1 : (pre ++ (Enc.int.fl l ++ post)).set (off + i.toNat) (i64 v) = pre ++ (vs ++ post) := by
    rw [List.set_append_right _ _ (by omega), hp, Nat.add_sub_cancel_left, List.set_append_left _ _ (by omega)]
    have e2 : (Enc.int.fl l).set i.toNat (i64 v) = vs := by
      rw [int_fl, ← List.map_set, he, ← hv]
      have hzl : z.length = n := by rw [← he, List.length_set, hl]
      apply List.ext_getElem
      · simp [hzl]
      · intro j h1 h2
        have hj : j < z.length := by simpa using h1
        simp [List.getD, hj]
    rw [e2]
  rw [e1] at h
  exact h
end
theorem oq {P : Program} {o : Oper} {e : Env} {A A' : List Chunk} {cs ds : List AV} (hw : WvL cs ds) (h : OpR P o e A (.agg cs) A') : OpR P o e A (.agg ds) A' := fun F I w ρ hI hρ => by
  obtain ⟨n, v, w', I', h1, h2, h3, h4, h5⟩ := h F I w ρ hI hρ;refine ⟨n, v, w', I', h1, h2, h3, h4, ?_⟩
  cases h5 with
  | agg _ xs hl hr =>
    have := hw.rel ⟨hl, hr⟩
    exact .agg _ xs this.1 this.2
theorem ng {P : Program} {o : Oper} {e : Env} {A A' : List Chunk} {cs cs' ds : List AV} (h : OpR P o e A (.agg cs') A') (hw : WvL cs ds) (hc : cs' = cs := by rfl) : OpR P o e A (.agg ds) A' := oq (hc ▸ hw) h
section
variable {P : Program} {ro : Option Nat} {N : Nat} {Q : cW} {ops : Array Oper}
theorem fN {f : FuncId} {fn : Func} {id : Nat} {r1 r2 : Code} {args : List AV} {A : List Chunk} {u u' : FrameMode} {R : AE → FrameMode → List Chunk → Prop} {v : Value} {av : AV} {t : Nat} {T : TypeId} {pos : String} {after : Array Edge} {l : List Nat}
    (hf : P.funcs[f]? = some fn) (hb : fn.body = some (.seq (.seq (.region id ops false) r1) r2)) (hl : Nat.ble args.length fn.ntmps = true) (hr : List.range ops.size = 0 :: l) (ho : ops[0]? = some ⟨some t, .call ⟨.builtin .recover, #[], #[]⟩, T, pos, after, none⟩)
    (ht : Nat.blt t fn.ntmps = true) (hu : Recovers u v u') (hv : conc av = some v)
    (h : ∀ cs, ASR P fn.ntmps ops cs (Then (AW P none fn.ntmps r1 (Then (AW P none fn.ntmps r2 (fJ P fn fn.ntmps fun ae A' => R ae u' A')) (fJ P fn fn.ntmps fun ae A' => R ae u' A'))) (fJ P fn fn.ntmps fun ae A' => R ae u' A')) l ⟨(t, av) :: gG 0 args, [], A⟩) : ADCalls P f args A u R := fun F I w vs hI hvs => by
  refine callsD_of_wpS hf hb fun c₀ cs hu0 => ?_
  refine wpS_seq (wpS_seq (wpS_region ?_))
  rw [hr]
  have hrel := kx (A := A) hvs (aa hl)
  have hS : RelS fn.ntmps I w ⟨(t, av) :: gG 0 args, [], A⟩ (({ tmps := vs.toArray ++ Array.replicate (fn.ntmps - vs.toArray.size) undef, defers := [] } : Act).put (some t) v) :=
    hrel.put (aa ht) (conc_mk av v hv) A
  have key := h ({ c₀ with mode := u' } :: cs) F I w _ hI hS
  have fin : ∀ e a cs' w', cs' = ({ c₀ with mode := u' } : Frame) :: cs ∧ CQ fn.ntmps F I w (fJ P fn fn.ntmps fun ae A' => R ae u' A') e a w' →
      bodyPostS P fn c₀ cs (fun e u' w' => ∃ I' ae A', Ext I w I' w' ∧ Inv I' (A' ++ F) w' ∧ kW I' w' ae e ∧ R ae u' A') e a cs' w' := by
    rintro e a cs' w' ⟨rfl, I', s', E, hI', hS', hq⟩
    cases e with
    | normal =>
      obtain ⟨hds, av, A', hres, hsub, hR⟩ := hq;obtain ⟨v, hrun, hv⟩ := hres F I' w' a hI' hS';exact ⟨cA (hds ▸ hS'.ds), u', rfl, v, hrun, I', .ret av, A', E, hsub.inv hI', hv, hR⟩
    | ret =>
      obtain ⟨hds, av, A', hres, hsub, hR⟩ := hq;obtain ⟨v, hrun, hv⟩ := hres F I' w' a hI' hS';exact ⟨cA (hds ▸ hS'.ds), u', rfl, v, hrun, I', .ret av, A', E, hsub.inv hI', hv, hR⟩
    | panic c =>
      obtain ⟨hds, A', hsub, hR⟩ := hq;exact ⟨cA (hds ▸ hS'.ds), u', rfl, I', .pan c, A', E, hsub.inv hI', rfl, hR⟩
    | exit id => exact hq.elim
    | goto l => exact hq.elim
    | outgrown => exact hq.elim
  have next2 : ∀ e a cs' w', cs' = ({ c₀ with mode := u' } : Frame) :: cs ∧ CQ fn.ntmps F I w (Then (AW P none fn.ntmps r2 (fJ P fn fn.ntmps fun ae A' => R ae u' A')) (fJ P fn fn.ntmps fun ae A' => R ae u' A')) e a w' →
      Exit.thenS (r2.wpS P (bodyPostS P fn c₀ cs (fun e u' w' => ∃ I' ae A', Ext I w I' w' ∧ Inv I' (A' ++ F) w' ∧ kW I' w' ae e ∧ R ae u' A'))) (bodyPostS P fn c₀ cs (fun e u' w' => ∃ I' ae A', Ext I w I' w' ∧ Inv I' (A' ++ F) w' ∧ kW I' w' ae e ∧ R ae u' A')) e a cs' w' := by
    rintro e a cs' w' ⟨rfl, I', s', E, hI', hS', hq⟩
    cases e with
    | normal =>
      refine wpS_of_wp ((wpIn_wide (n := 0)).1 (wpIn_mono (hq F I' w' a hI' hS') fun e a w' hq => ?_));exact fin e a _ w' ⟨rfl, cb E (fun _ _ h => h) hq⟩
    | ret => exact fin .ret a _ w' ⟨rfl, I', s', E, hI', hS', hq⟩
    | panic c => exact fin (.panic c) a _ w' ⟨rfl, I', s', E, hI', hS', hq⟩
    | exit id => exact hq.elim
    | goto l => exact hq.elim
    | outgrown => exact hq.elim
  have next : ∀ e a cs' w', cs' = ({ c₀ with mode := u' } : Frame) :: cs ∧ CQ fn.ntmps F I w (Then (AW P none fn.ntmps r1 (Then (AW P none fn.ntmps r2 (fJ P fn fn.ntmps fun ae A' => R ae u' A')) (fJ P fn fn.ntmps fun ae A' => R ae u' A'))) (fJ P fn fn.ntmps fun ae A' => R ae u' A')) e a w' →
      Exit.thenS (r1.wpS P (Exit.thenS (r2.wpS P (bodyPostS P fn c₀ cs (fun e u' w' => ∃ I' ae A', Ext I w I' w' ∧ Inv I' (A' ++ F) w' ∧ kW I' w' ae e ∧ R ae u' A'))) (bodyPostS P fn c₀ cs (fun e u' w' => ∃ I' ae A', Ext I w I' w' ∧ Inv I' (A' ++ F) w' ∧ kW I' w' ae e ∧ R ae u' A')))) (Exit.thenS (r2.wpS P (bodyPostS P fn c₀ cs (fun e u' w' => ∃ I' ae A', Ext I w I' w' ∧ Inv I' (A' ++ F) w' ∧ kW I' w' ae e ∧ R ae u' A'))) (bodyPostS P fn c₀ cs (fun e u' w' => ∃ I' ae A', Ext I w I' w' ∧ Inv I' (A' ++ F) w' ∧ kW I' w' ae e ∧ R ae u' A'))) e a cs' w' := by
    rintro e a cs' w' ⟨rfl, I', s', E, hI', hS', hq⟩
    cases e with
    | normal =>
      refine wpS_of_wp ((wpIn_wide (n := 0)).1 (wpIn_mono (hq F I' w' a hI' hS') fun e a w' hq => ?_));exact next2 e a _ w' ⟨rfl, cb E (fun _ _ h => h) hq⟩
    | ret => exact fin .ret a _ w' ⟨rfl, I', s', E, hI', hS', hq⟩
    | panic c => exact fin (.panic c) a _ w' ⟨rfl, I', s', E, hI', hS', hq⟩
    | exit id => exact hq.elim
    | goto l => exact hq.elim
    | outgrown => exact hq.elim
  have key2 := kz l next _ _ _ key
  simp only [wpOpsS, ho, Region.wanted, if_true]
  have hrun : ∀ ρ : Operand → Value, (execOp ρ ⟨some t, .call ⟨.builtin .recover, #[], #[]⟩, T, pos, after, none⟩).run P w = .ok .recover w := fun ρ => rfl
  rw [hrun]
  rcases hu with ⟨older, rfl, rfl⟩ | ⟨rfl, rfl, rfl⟩
  · simp only [recoverD, hu0]
    exact key2
  · have hc : ({ c₀ with mode := .returning } : Frame) = c₀ := by rw [← hu0]
    rw [hc] at key2
    simp only [recoverD, hu0]
    exact key2
end
section
variable {P : Program} {N : Nat}
theorem iE {fn : Func} {e : Env} {R : AE → List Chunk → Prop} {g : FuncId} {cap args : List AV} {ds : List ADef} {u u1 : FrameMode} {A A1 B : List Chunk} {A2 : Nat → List Chunk} {v : AV} (is : List Nat) (hu : u ≠ .run) (hf : ∀ xs w, (callFunc g xs).run P w = .ok (.enter g xs) w)
    (p : gA A is = some (A1, B)) (h : ADCalls P g (args ++ cap) A1 u fun ae u' A' => ae = .ret v ∧ u' = u1 ∧ ∃ t, A' = A2 t) (k : ∀ t, ALeaves P fn N e R ds (settle u1) (A2 t ++ B)) :
    ALeaves P fn N e R (.call (.func g) cap args :: ds) u A := by
  refine ⟨hu, g, A1, B, rfl, hf, cm is _ _ _ p, fun F I w vs hI hv => ?_⟩;intro c cs hc;obtain ⟨en, u', w', fr, hq, h1, h2, h3⟩ := h F I w vs hI hv c cs hc;refine ⟨en, u', w', fr, ?_, h1, h2, h3⟩;obtain ⟨I', ae, A', E, hI', hre, rfl, rfl, t, rfl⟩ := hq;exact ⟨I', _, _, E, hI', hre, k t⟩
theorem ADCalls.grow {f : FuncId} {args : List AV} {A A2 : List Chunk} {u u1 : FrameMode} {v : AV} {A3 : Nat → List Chunk} {o : Nat} {cs : List AV} (i j k : Nat) (Ty : TypeId) (hA : A2[i]? = some (.obj o cs)) (hj : cs[j]? = some (.v (.slice none 0 0)))
    (hE : ∀ t, A3 t = .tok t Ty :: A2.set i (.obj o (cs.set j (.sl k [] (some t))))) (h : ADCalls P f args A u fun ae u' A' => ae = .ret v ∧ u' = u1 ∧ A' = A2) :
    ADCalls P f args A u fun ae u' A' => ae = .ret v ∧ u' = u1 ∧ ∃ t, A' = A3 t := fun F I w vs hI hv => by
  intro c cs0 hc;obtain ⟨en, u', w', fr, hq, h1, h2, h3⟩ := h F I w vs hI hv c cs0 hc;refine ⟨en, u', w', fr, ?_, h1, h2, h3⟩;obtain ⟨I', ae, A', E, hI', hre, rfl, rfl, rfl⟩ := hq;obtain ⟨t, I2, E2, hI2⟩ := Inv.nil_objAt hI' i j k Ty hA hj;exact ⟨I2, _, _, E.trans E2, by rw [hE t]; exact hI2, (by cases en <;> first | exact hre.mono E2 | exact hre), rfl, rfl, t, rfl⟩
end
theorem iu {P : Program} {ro : Option Nat} {N : Nat} {Q : cW} {ops : Array Oper} {l : List Nat} {e : Env} {ds : List ADef} {A : List Chunk} {o : Nat} {cs : List AV} (i j k : Nat) (Ty : TypeId) (hA : A[i]? = some (.obj o cs)) (hj : cs[j]? = some (.v (.slice none 0 0)))
    (h : ∀ t, AR P ro N ops Q l ⟨e, ds, (A.set i (.obj o (cs.set j (.sl k [] (some t))))).take (i + 1) ++ .tok t Ty :: (A.set i (.obj o (cs.set j (.sl k [] (some t))))).drop (i + 1)⟩) : AR P ro N ops Q l ⟨e, ds, A⟩ := fun F I w a hI hS => by
  obtain ⟨t, I', E, hI'⟩ := Inv.nil_objAt hI i j k Ty hA hj;refine bN l (fun _ _ _ => cb E fun _ _ h => h) _ _ (h t F I' w a (hI'.perm ?_) ⟨hS.size, (hS.mono E).env, (hS.mono E).ds⟩);refine List.Perm.append_right F ?_
  have := (bz (a := Chunk.tok t Ty) (l₁ := (A.set i (.obj o (cs.set j (.sl k [] (some t))))).take (i + 1)) (l₂ := (A.set i (.obj o (cs.set j (.sl k [] (some t))))).drop (i + 1))).symm
  rw [List.take_append_drop] at this
  exact this
end Go.Av
namespace Go.Proofs.YtimpbfniegimaaaDoor
open Go.RowKit Go.Av Go.Pv
theorem jt (fn s : List UInt8) (base bits : Int) (hs : s.length < 4294967281) : ACalls Tryd.prog 59 [S fn, S s, i64 base, i64 bits, .ifc 108 (i64 2)] [] (Ret (.ifc 111 .any) []) := by
 refine gN fun I A w vs hI hv => ?_
 obtain ⟨v1, r1, rfl, h1, hv⟩ := hv.out_cons;obtain ⟨v2, r2, rfl, h2, hv⟩ := hv.out_cons;obtain ⟨v3, r3, rfl, h3, hv⟩ := hv.out_cons;obtain ⟨v4, r4, rfl, h4, hv⟩ := hv.out_cons;obtain ⟨v5, r5, rfl, h5, hv⟩ := hv.out_cons
 rw [hv.out_nil, jc h1, jc h2, bS h3, bS h4, iG h5]
 obtain ⟨ev, hc, hev⟩ := mD hI (g := 2) (r := []) rfl
 refine (Tryd.strconv_toError_syntax ⟨fn.toArray⟩ ⟨s.toArray⟩ base bits ev w (by simp [ByteArray.size]; omega) hc hev).mono fun e w' ⟨N, he, _, _, hb⟩ => ⟨_, he, fun _ _ => .ifc _ _ _ (.any _), hb⟩
theorem jD (fn s : List UInt8) (base bits : Int) (hs : s.length < 4294967281) : ACalls Tryd.prog 59 [S fn, S s, i64 base, i64 bits, .ifc 108 (i64 1)] [] (Ret (.ifc 111 .any) []) := by
 refine gN fun I A w vs hI hv => ?_
 obtain ⟨v1, r1, rfl, h1, hv⟩ := hv.out_cons;obtain ⟨v2, r2, rfl, h2, hv⟩ := hv.out_cons;obtain ⟨v3, r3, rfl, h3, hv⟩ := hv.out_cons;obtain ⟨v4, r4, rfl, h4, hv⟩ := hv.out_cons;obtain ⟨v5, r5, rfl, h5, hv⟩ := hv.out_cons
 rw [hv.out_nil, jc h1, jc h2, bS h3, bS h4, iG h5]
 obtain ⟨ev, hc, hev⟩ := mD hI (g := 3) (r := []) rfl
 refine (Tryd.strconv_toError_range ⟨fn.toArray⟩ ⟨s.toArray⟩ base bits ev w (by simp [ByteArray.size]; omega) hc hev).mono fun e w' ⟨N, he, _, _, hb⟩ => ⟨_, he, fun _ _ => .ifc _ _ _ (.any _), hb⟩
theorem nX (fn s : List UInt8) (base bits n : Int) (hs : s.length < 4294967281) (hn : n = 1 ∨ n = 2) : ACalls Tryd.prog 59 [S fn, S s, i64 base, i64 bits, eK 108 .i64 n] [] (Ret (.ifc 111 .any) []) := by
 rcases hn with rfl | rfl
 ·exact jD fn s base bits hs
 ·exact jt fn s base bits hs
theorem kJ (n : Int) (h : -9223372036854775808 ≤ n ∧ n ≤ 9223372036854775807) : ACalls Tryd.prog 27 [i64 n] [] (Ret (S (Go.Lib.itoa n)) []) := by
 refine fM fun I A w vs hI hv => ?_
 obtain ⟨v1, r1, rfl, h1, hv⟩ := hv.out_cons
 rw [hv.out_nil, bS h1]
 have ht : Go.Lib.TabIs Tryd.prog w "internal/strconv.uint64pow10" .u64 Go.Lib.pow10Tab := tabIs_of hI (g := 1) (by kernel_rfl) (by simp [G, Go.Lib.pow10Tab])
 refine (Tryd.strconv_Itoa n h.1 h.2 w ht).mono fun e w' ⟨he, k, os, hw⟩ => ⟨by simpa using he, ?_⟩
 rw [hw]; exact Go.Lib.below_grow _ w (Nat.le_refl _) k os
theorem bm (a : List UInt8) (t : Option Nat) (hs : a.length < 4294967281) : ACalls Tryd.prog 23 [slE Enc.byte a t] [] (fun e A' => ∃ t', e = .ret (slE Enc.byte a (some t')) ∧ A' = [.tok t' 5]) := fun F I w vs hI hv => by
 obtain ⟨v1, r1, rfl, h1, hv⟩ := hv.out_cons;obtain rfl := hv.out_nil;obtain ⟨a1, c1, rfl, hc1, hb1, hx1⟩ := kG h1
 cases a1 with
 | none =>
  have : a = [] := by
   by_cases hne : a = []
   ·exact hne
   ·obtain ⟨_, _, h, _⟩ := hx1 hne; cases h
  subst this
  refine (Tryd.bytes_Clone_nil 0 c1 w).mono fun e w' ⟨he, hw⟩ => ?_
  subst he; subst hw
  obtain ⟨t', ht⟩ := hI.fresh_tok;obtain ⟨E, hI2⟩ := hI.nil_tok ht 5;exact ⟨_, .ret _, [.tok t' 5], E, hI2, .slnil _ _ (by simp [Info.nilTok]), t', rfl, rfl⟩
 | some ad =>
  refine (Tryd.bytes_Clone_at ad a.length c1 (Go.Lib.numsL a) w (Go.Lib.numsL_length _) (by omega) (fun i hi => ?_)).mono fun e w' ⟨v', he, how, _, hb⟩ => ?_
  ·obtain ⟨b, o, h, hc⟩ := hx1 (by intro e; rw [e] at hi; simp at hi)
   cases h
   rw [dh]; exact hc i hi
  ·subst he;obtain ⟨t', I', X, hI', hr⟩ := nU hI hb how;exact ⟨I', .ret _, [.tok t' 5], X, hI', hr, t', rfl, rfl⟩
end Go.Proofs.YtimpbfniegimaaaDoor
namespace Go.Pv
def bndo {γ : Type} : Option Bool → Option γ → (Bool → Option γ) → Option γ
  | none, a, _ => a
  | some b, _, k => k b
theorem bndo_s {γ : Type} {o : Option Bool} {a : Option γ} {k : Bool → Option γ} {v : γ} (h : bndo o a k = some v) : (o = none ∧ a = some v) ∨ ∃ b, o = some b ∧ k b = some v := by
  cases o with
  | none => exact .inl ⟨rfl, h⟩
  | some b => exact .inr ⟨b, rfl, h⟩
end Go.Pv
namespace Go.Pv
def dL (F : Nat) (a1 : UInt8) : Option UInt8 :=
some (a1 ||| 32)
def di (y84 : Int) : Option Bool :=
some (!decide (y84 = 95))
def ci (y50 : Int) (rec51 : (Int × Int) → Option Bool) (y81 : Int) : Option Bool :=
grd (okI (y50 + 1)) <|
rec51 (y81, y50 + 1)
def eJ (F : Nat) (y15 : List UInt8) (y47 : Bool) (rec51 : (Int × Int) → Option Bool) (y49 : Int) (y50 : Int) : Option Bool :=
bif decide (y50 < (y15.length : Int)) then
  grd (bQ y50 y15.length) <|
  lt (at_ y15 y50) fun x55 =>
  dK (decide (48 ≤ (x55.toNat : Int))) (bQ y50 y15.length) <|
  lt (at_ y15 y50) fun x59 =>
  dK ((!((decide (48 ≤ (x55.toNat : Int))) && (decide ((x59.toNat : Int) ≤ 57)))) && y47) (bQ y50 y15.length) <|
  lt (at_ y15 y50) fun x64 =>
  jz ((!((decide (48 ≤ (x55.toNat : Int))) && (decide ((x59.toNat : Int) ≤ 57)))) && y47) (dL F x64) fun x66 =>
  dK ((!((decide (48 ≤ (x55.toNat : Int))) && (decide ((x59.toNat : Int) ≤ 57)))) && (y47 && (decide (97 ≤ (x66.toNat : Int))))) (bQ y50 y15.length) <|
  lt (at_ y15 y50) fun x70 =>
  jz ((!((decide (48 ≤ (x55.toNat : Int))) && (decide ((x59.toNat : Int) ≤ 57)))) && (y47 && (decide (97 ≤ (x66.toNat : Int))))) (dL F x70) fun x72 =>
  bif ((decide (48 ≤ (x55.toNat : Int))) && (decide ((x59.toNat : Int) ≤ 57))) || ((y47 && (decide (97 ≤ (x66.toNat : Int)))) && (decide ((x72.toNat : Int) ≤ 102))) then
    ci y50 rec51 48
  else
    grd (bQ y50 y15.length) <|
    lt (at_ y15 y50) fun x76 =>
    bif decide (x76 = 95) then
      bif !decide (y49 = 48) then
        some false
      else
        ci y50 rec51 95
    else
      bif decide (y49 = 95) then
        some false
      else
        ci y50 rec51 33
else
  di y49
def cE (F : Nat) (y15 : List UInt8) (y47 : Bool) (n : Nat) : (Int × Int) → Option Bool :=
  loop (fun rec x => eJ F y15 y47 rec x.1 x.2) n
def cD (F : Nat) (y15 : List UInt8) (y45 : Int) (y46 : Int) (y47 : Bool) : Option Bool :=
cE F y15 y47 F (y45, y46)
def cC (F : Nat) (y15 : List UInt8) : Option Bool :=
dK (decide (2 ≤ (y15.length : Int))) (bQ 0 y15.length) <|
lt (at_ y15 0) fun x19 =>
dK ((decide (2 ≤ (y15.length : Int))) && (decide (x19 = 48))) (bQ 1 y15.length) <|
lt (at_ y15 1) fun x23 =>
jz ((decide (2 ≤ (y15.length : Int))) && (decide (x19 = 48))) (dL F x23) fun x25 =>
dK (((decide (2 ≤ (y15.length : Int))) && (decide (x19 = 48))) && (!(decide (x25 = 98)))) (bQ 1 y15.length) <|
lt (at_ y15 1) fun x29 =>
jz (((decide (2 ≤ (y15.length : Int))) && (decide (x19 = 48))) && (!(decide (x25 = 98)))) (dL F x29) fun x31 =>
dK (((decide (2 ≤ (y15.length : Int))) && (decide (x19 = 48))) && (!((decide (x25 = 98)) || (decide (x31 = 111))))) (bQ 1 y15.length) <|
lt (at_ y15 1) fun x35 =>
jz (((decide (2 ≤ (y15.length : Int))) && (decide (x19 = 48))) && (!((decide (x25 = 98)) || (decide (x31 = 111))))) (dL F x35) fun x37 =>
bif ((decide (2 ≤ (y15.length : Int))) && (decide (x19 = 48))) && (((decide (x25 = 98)) || (decide (x31 = 111))) || (decide (x37 = 120))) then
  grd (bQ 1 y15.length) <|
  lt (at_ y15 1) fun x41 =>
  bnd (dL F x41) fun x43 =>
  cD F y15 48 2 (decide (x43 = 120))
else
  cD F y15 94 0 false
def fK (F : Nat) (a1 : List UInt8) : Option Bool :=
dK (decide (1 ≤ (a1.length : Int))) (bQ 0 a1.length) <|
lt (at_ a1 0) fun x5 =>
dK ((decide (1 ≤ (a1.length : Int))) && (!(decide (x5 = 45)))) (bQ 0 a1.length) <|
lt (at_ a1 0) fun x9 =>
bif (decide (1 ≤ (a1.length : Int))) && ((decide (x5 = 45)) || (decide (x9 = 43))) then
  grd (gI 1 a1.length) <|
  lt (dg a1 1) fun x13 =>
  cC F x13
else
  cC F a1
def dx (F : Nat) (a1 : List UInt8) (y53 : Bool) (y54 : Int) : Option (Int × Int) :=
jz y53 (fK F a1) fun x57 =>
bif y53 && (!x57) then
  some (0, 2)
else
  some (y54, 0)
def cL (y24 : Int) (rec25 : (Bool × Int × Int) → Option (Int × Int)) (y49 : Bool) (y50 : Int) : Option (Int × Int) :=
grd (okI (y24 + 1)) <|
rec25 (y49, y50, y24 + 1)
def cu (a2 : Int) (y17 : Int) (y22 : Bool) (y23 : Int) (y24 : Int) (rec25 : (Bool × Int × Int) → Option (Int × Int)) (y43 : UInt8) : Option (Int × Int) :=
bif decide (((Go.Av.toB a2).toNat : Int) ≤ (y43.toNat : Int)) then
  some (0, 2)
else
  bif decide (y17 ≤ y23) then
    some (IntKind.u64.wrap ((IntKind.u64.wrap (1 * 2 ^ min (Int.toNat (IntKind.u64.wrap 64)) IntKind.u64.bits)) - 1), 1)
  else
    bif (decide (IntKind.u64.wrap ((IntKind.u64.wrap (y23 * (IntKind.u64.wrap a2))) + (IntKind.u64.wrap (y43.toNat : Int))) < IntKind.u64.wrap (y23 * (IntKind.u64.wrap a2)))) || (decide (IntKind.u64.wrap ((IntKind.u64.wrap (1 * 2 ^ min (Int.toNat (IntKind.u64.wrap 64)) IntKind.u64.bits)) - 1) < IntKind.u64.wrap ((IntKind.u64.wrap (y23 * (IntKind.u64.wrap a2))) + (IntKind.u64.wrap (y43.toNat : Int))))) then
      some (IntKind.u64.wrap ((IntKind.u64.wrap (1 * 2 ^ min (Int.toNat (IntKind.u64.wrap 64)) IntKind.u64.bits)) - 1), 1)
    else
      cL y24 rec25 y22 (IntKind.u64.wrap ((IntKind.u64.wrap (y23 * (IntKind.u64.wrap a2))) + (IntKind.u64.wrap (y43.toNat : Int))))
def dy (F : Nat) (a1 : List UInt8) (a2 : Int) (y17 : Int) (rec25 : (Bool × Int × Int) → Option (Int × Int)) (y22 : Bool) (y23 : Int) (y24 : Int) : Option (Int × Int) :=
bif decide (y24 < (a1.length : Int)) then
  grd (bQ y24 a1.length) <|
  lt (at_ a1 y24) fun x29 =>
  bif (decide (x29 = 95)) && (decide (a2 = 0)) then
    cL y24 rec25 true y23
  else
    bif (decide (48 ≤ (x29.toNat : Int))) && (decide ((x29.toNat : Int) ≤ 57)) then
      cu a2 y17 y22 y23 y24 rec25 (x29 - 48)
    else
      bnd (dL F x29) fun x35 =>
      jz (decide (97 ≤ (x35.toNat : Int))) (dL F x29) fun x38 =>
      bif (decide (97 ≤ (x35.toNat : Int))) && (decide ((x38.toNat : Int) ≤ 122)) then
        bnd (dL F x29) fun x41 =>
        cu a2 y17 y22 y23 y24 rec25 ((x41 - 97) + 10)
      else
        some (0, 2)
else
  dx F a1 y22 y23
def bM (F : Nat) (a1 : List UInt8) (a2 : Int) (y17 : Int) (n : Nat) : (Bool × Int × Int) → Option (Int × Int) :=
  loop (fun rec x => dy F a1 a2 y17 rec x.1 x.2.1 x.2.2) n
def ct (F : Nat) (a1 : List UInt8) (a2 : Int) (y17 : Int) : Option (Int × Int) :=
grd (decide (0 ≤ IntKind.u64.wrap 64)) <|
grd (df a1.length) <|
bM F a1 a2 y17 F (false, 0, 0)
def dw (F : Nat) (a1 : List UInt8) (a2 : Int) : Option (Int × Int) :=
bif decide (a2 = 10) then
  ct F a1 a2 1844674407370955162
else
  bif decide (a2 = 16) then
    ct F a1 a2 1152921504606846976
  else
    grd (decide (IntKind.u64.wrap a2 ≠ 0)) <|
    ct F a1 a2 (IntKind.u64.wrap ((IntKind.u64.wrap (Int.tdiv 18446744073709551615 (IntKind.u64.wrap a2))) + 1))
def dv (F : Nat) (a1 : List UInt8) (a2 : Int) (a3 : Int) : Option (Int × Int) :=
grd (decide (a3 = 0)) <|
dw F a1 a2
def eV (F : Nat) (a1 : List UInt8) (a2 : Int) (a3 : Int) : Option (Int × Int) :=
bif decide (a1 = ([] : List UInt8)) then
  some (0, 2)
else
  grd ((decide (2 ≤ a2)) && (decide (a2 ≤ 36))) <|
  dv F a1 a2 a3
def cN (y35 : Int) : Option (Int × Int) :=
some (y35, 0)
def cM (y19 : Bool) (x21 : Int) : Option (Int × Int) :=
grd (decide (0 ≤ IntKind.u64.wrap 63)) <|
bif (!y19) && (decide (IntKind.u64.wrap (1 * 2 ^ min (Int.toNat (IntKind.u64.wrap 63)) IntKind.u64.bits) ≤ x21)) then
  some (IntKind.i64.wrap (IntKind.u64.wrap ((IntKind.u64.wrap (1 * 2 ^ min (Int.toNat (IntKind.u64.wrap 63)) IntKind.u64.bits)) - 1)), 1)
else
  bif y19 && (decide (IntKind.u64.wrap (1 * 2 ^ min (Int.toNat (IntKind.u64.wrap 63)) IntKind.u64.bits) < x21)) then
    some (IntKind.i64.wrap (0 - (IntKind.i64.wrap (IntKind.u64.wrap (1 * 2 ^ min (Int.toNat (IntKind.u64.wrap 63)) IntKind.u64.bits)))), 1)
  else
    bif y19 then
      cN (IntKind.i64.wrap (0 - (IntKind.i64.wrap x21)))
    else
      cN (IntKind.i64.wrap x21)
def cc (F : Nat) (a2 : Int) (a3 : Int) (y18 : List UInt8) (y19 : Bool) : Option (Int × Int) :=
kt (eV F y18 a2 a3) fun x21 x22 =>
bif (!decide (x22 = 0)) && (!decide (x22 = 1)) then
  some (0, x22)
else
  grd (decide (a3 = 0)) <|
  cM y19 x21
def eW (F : Nat) (a1 : List UInt8) (a2 : Int) (a3 : Int) : Option (Int × Int) :=
bif decide (a1 = ([] : List UInt8)) then
  some (0, 2)
else
  grd (bQ 0 a1.length) <|
  lt (at_ a1 0) fun x8 =>
  bif decide (x8 = 43) then
    grd (gI 1 a1.length) <|
    lt (dg a1 1) fun x12 =>
    cc F a2 a3 x12 false
  else
    bif decide (x8 = 45) then
      grd (gI 1 a1.length) <|
      lt (dg a1 1) fun x16 =>
      cc F a2 a3 x16 true
    else
      cc F a2 a3 a1 false
def fp (F : Nat) (a1 : List UInt8) : Option (Int × Int) :=
kt (eW F a1 10 0) fun x44 x45 =>
some (x44, x45)
def eg (y41 : Int) : Option (Int × Int) :=
some (y41, 0)
def ef (a1 : List UInt8) (y34 : Int) : Option (Int × Int) :=
grd (bQ 0 a1.length) <|
lt (at_ a1 0) fun x37 =>
bif decide (x37 = 45) then
  grd (okI (0 - y34)) <|
  eg (0 - y34)
else
  eg y34
def dr (a1 : List UInt8) (y18 : List UInt8) (rec24 : (Int × Int) → Option (Int × Int)) (y22 : Int) (y23 : Int) : Option (Int × Int) :=
bif decide (y23 < (y18.length : Int)) then
  grd (bQ y23 y18.length) <|
  lt (at_ y18 y23) fun x28 =>
  bif decide (9 < ((x28 - 48).toNat : Int)) then
    some (0, 2)
  else
    grd (okI (y22 * 10)) <|
    grd (okI ((y22 * 10) + ((x28 - 48).toNat : Int))) <|
    grd (okI (y23 + 1)) <|
    rec24 ((y22 * 10) + ((x28 - 48).toNat : Int), y23 + 1)
else
  ef a1 y22
def dq (a1 : List UInt8) (y18 : List UInt8) (n : Nat) : (Int × Int) → Option (Int × Int) :=
  loop (fun rec x => dr a1 y18 rec x.1 x.2) n
def ee (F : Nat) (a1 : List UInt8) (y18 : List UInt8) : Option (Int × Int) :=
grd (df y18.length) <|
dq a1 y18 F (0, 0)
def fU (F : Nat) (a1 : List UInt8) : Option (Int × Int) :=
bif (decide (0 < (a1.length : Int))) && (decide ((a1.length : Int) < 19)) then
  grd (bQ 0 a1.length) <|
  lt (at_ a1 0) fun x7 =>
  dK (!(decide (x7 = 45))) (bQ 0 a1.length) <|
  lt (at_ a1 0) fun x11 =>
  bif (decide (x7 = 45)) || (decide (x11 = 43)) then
    grd (gI 1 a1.length) <|
    lt (dg a1 1) fun x15 =>
    bif decide ((x15.length : Int) < 1) then
      some (0, 2)
    else
      ee F a1 x15
  else
    ee F a1 a1
else
  fp F a1
def cx (F : Nat) (a1 : List UInt8) : Option (Int × Int) :=
kt (fU F a1) fun x4 x5 =>
bif !decide (x5 = 0) then
  grd (okS a1.length) <|
  grd (decide (x5 = 1 ∨ x5 = 2)) <|
  some (x4, 1)
else
  some (x4, 0)
end Go.Pv
namespace Go.Proofs.YtimpbfniegimaaaDoor
open Go.RowKit Go.Av Go.Pv
theorem en58_num : ∀ (args : Array Value) (w : World), (callFunc 58 args).run Tryd.prog w = .ok (.enter 58 args) w := fun _ _ => by kernel_rfl
theorem en59_num : ∀ (args : Array Value) (w : World), (callFunc 59 args).run Tryd.prog w = .ok (.enter 59 args) w := fun _ _ => by kernel_rfl
theorem en72_num : ∀ (args : Array Value) (w : World), (callFunc 72 args).run Tryd.prog w = .ok (.enter 72 args) w := fun _ _ => by kernel_rfl
theorem en87_num : ∀ (args : Array Value) (w : World), (callFunc 87 args).run Tryd.prog w = .ok (.enter 87 args) w := fun _ _ => by kernel_rfl
theorem fh : ∀ (args : Array Value) (w : World), (callFunc 95 args).run Tryd.prog w = .ok (.enter 95 args) w := fun _ _ => by kernel_rfl
theorem en96_num : ∀ (args : Array Value) (w : World), (callFunc 96 args).run Tryd.prog w = .ok (.enter 96 args) w := fun _ _ => by kernel_rfl
set_option maxRecDepth 100000 in
set_option maxHeartbeats 1000000 in
theorem dp (F : Nat) (a1 : UInt8) (r2 : UInt8) (H : dL F a1 = some r2) : ACalls Tryd.prog 95 [u8 a1] [] (Ret (u8 r2) []) := by
 unfold dL at H
 refine aA Tryd.func95 rfl rfl ?_;show AW _ _ 5 _ _ _;refine af <| ab ?_;show AR _ _ _ _ _ [0] _;refine za rfl <| ag <| af <| ab ?_;show AR _ _ _ _ _ [0, 1, 2] _;refine zm rfl <| zS rfl (g_or8 (a := a1) (b := 32) rfl rfl) <| za rfl <| ag <| aL ?_;obtain rfl := ak H;exact And.intro rfl (Exists.intro _ (Exists.intro _ ⟨aK rfl (.refl _), aF [] rfl, rfl, rfl⟩))
abbrev _root_.Go.Av.ac := @Bool.eq_false_or_eq_true
abbrev _root_.Go.Av.ah := @Tryd.underlying9
set_option maxRecDepth 100000 in
set_option maxHeartbeats 1000000 in
theorem jB (F : Nat) (a1 : List UInt8) (r2 : Bool) (H : fK F a1 = some r2) : ACalls Tryd.prog 96 [S a1] [] (Ret (B r2) []) := by
 unfold fK at H
 refine aA Tryd.func96 rfl rfl ?_;show AW _ _ 94 _ _ _;refine af <| ab ?_;show AR _ _ _ _ _ [0] _;refine za rfl <| ag <| af <| ab ?_;show AR _ _ _ _ _ [0] _;refine za rfl <| ag <| af <| ab ?_;show AR _ _ _ _ _ [0] _;refine za rfl <| ag <| bx (X := (List UInt8)) (fun y15 => ⟨[(0, S y15), (3, .v (.int .i32 94)), (4, i64 0)], [], []⟩) (fun y15 => cC F y15 = some r2) ?_ ?_
 ·refine af ?_;obtain ⟨g4, H⟩ := ce H;obtain ⟨x5, e6, H⟩ := bp H;obtain ⟨g8, H⟩ := ce H;obtain ⟨x9, e10, H⟩ := bp H;refine ab ?_;show AR _ _ _ _ _ [0, 1, 2, 3, 4, 5, 6, 7, 8, 9, 10, 11, 12] _;refine zm rfl <| zS rfl (be ah rfl) <| zS rfl (fF rfl rfl) <| zm rfl <| aG (l := []) 18 (B ((decide (1 ≤ (a1.length : Int))) && ((decide (x5 = 45)) || (decide (x9 = 43))))) (fun K => ?_) ?_
  ·rcases ac (decide (1 ≤ (a1.length : Int))) with h3 | h3
   ·refine zM h3 rfl <| zU h3 rfl (aP ah rfl rfl (g4 h3) e6) <| zU h3 rfl (dF (a := x5) (b := 45) rfl rfl) <| zM h3 rfl <| aG (l := [12]) 17 (B ((decide (x5 = 45)) || (decide (x9 = 43)))) (fun K => ?_) ?_
    ·rcases ac (decide (x5 = 45)) with h7 | h7
     ·refine zF h7 rfl <| zF h7 rfl <| zF h7 rfl <| zU h3 rfl (aq (av := .v _) rfl h7 rfl) ?_;exact K _ 3 _ (an (ek h7)) rfl rfl
     ·refine zM h7 rfl <| zU h7 rfl (aP ah rfl rfl (g8 (fS h3 (nf h7))) e10) <| zU h7 rfl (dF (a := x9) (b := 43) rfl rfl) <| zU h3 rfl (ap (av := .v _) rfl h7 rfl) ?_;exact K _ 3 _ (an (eo h7)) rfl rfl
    refine zS rfl (aq (av := .v _) rfl h3 rfl) ?_;exact K _ 5 _ (an (bJ h3)) rfl rfl
   ·refine zF h3 rfl <| zF h3 rfl <| zF h3 rfl <| zF h3 rfl <| gU rfl rfl rfl rfl rfl <| gU rfl rfl rfl rfl rfl <| gU rfl rfl rfl rfl rfl <| zF h3 rfl <| zS rfl (ap (av := .v _) rfl h3 rfl) ?_;exact K _ 8 _ (an (bK h3)) rfl rfl
  refine ag <| ay rfl (fun c11 => ?_) (fun c11 => ?_)
  ·replace H := aZ c11 H;obtain ⟨g12, H⟩ := aI H;obtain ⟨x13, e14, H⟩ := bp H;refine ab ?_;show AR _ _ _ _ _ [0, 1, 2] _;refine zm rfl <| zS rfl (du ah rfl rfl g12 e14) <| za rfl <| ag ?_;exact Exists.intro x13 ⟨H, aX [] (.cons (.refl _) (.cons (.refl _) (.cons (.refl _) (.nil _)))) rfl⟩
  ·replace H := ba c11 H;refine aE ?_;exact Exists.intro a1 ⟨H, aX [] (.cons (.refl _) (.cons (.refl _) (.cons (.refl _) (.nil _)))) rfl⟩
 rintro y15 H;replace H : cC F y15 = some r2 := H
 unfold cC at H
 refine af <| ab ?_;show AR _ _ _ _ _ [0] _;refine za rfl <| ag <| bx (X := Int × Int × Bool) (fun (y45, y46, y47) => ⟨[(0, S y15), (3, .v (.int .i32 y45)), (4, i64 y46), (5, B y47)], [], []⟩) (fun (y45, y46, y47) => cD F y15 y45 y46 y47 = some r2) ?_ ?_
 ·refine af ?_;obtain ⟨g18, H⟩ := ce H;obtain ⟨x19, e20, H⟩ := bp H;obtain ⟨g22, H⟩ := ce H;obtain ⟨x23, e24, H⟩ := bp H;obtain ⟨x25, e26, H⟩ := fG H;obtain ⟨g28, H⟩ := ce H;obtain ⟨x29, e30, H⟩ := bp H;obtain ⟨x31, e32, H⟩ := fG H;obtain ⟨g34, H⟩ := ce H;obtain ⟨x35, e36, H⟩ := bp H;obtain ⟨x37, e38, H⟩ := fG H;refine ab ?_;show AR _ _ _ _ _ [0, 1, 2, 3, 4, 5, 6, 7, 8, 9, 10, 11, 12, 13, 14, 15, 16, 17, 18, 19, 20, 21, 22, 23, 24, 25] _;refine zm rfl <| zS rfl (be ah rfl) <| zS rfl (fF rfl rfl) <| zm rfl <| aG (l := [8, 9, 10, 11, 12, 13, 14, 15, 16, 17, 18, 19, 20, 21, 22, 23, 24, 25]) 28 (B ((decide (2 ≤ (y15.length : Int))) && (decide (x19 = 48)))) (fun K => ?_) ?_
  ·rcases ac (decide (2 ≤ (y15.length : Int))) with h17 | h17
   ·refine zM h17 rfl <| zU h17 rfl (aP ah rfl rfl (g18 h17) e20) <| zU h17 rfl (dF (a := x19) (b := 48) rfl rfl) <| zS rfl (aq (av := .v _) rfl h17 rfl) ?_;exact K _ 3 _ (an (bJ h17)) rfl rfl
   ·refine zF h17 rfl <| zF h17 rfl <| zF h17 rfl <| zS rfl (ap (av := .v _) rfl h17 rfl) ?_;exact K _ 3 _ (an (bK h17)) rfl rfl
  refine zm rfl <| aG (l := []) 46 (B (((decide (2 ≤ (y15.length : Int))) && (decide (x19 = 48))) && (((decide (x25 = 98)) || (decide (x31 = 111))) || (decide (x37 = 120))))) (fun K => ?_) ?_
  ·rcases ac ((decide (2 ≤ (y15.length : Int))) && (decide (x19 = 48))) with h21 | h21
   ·refine zM h21 rfl <| zU h21 rfl (aP ah rfl rfl (g22 h21) e24) <| zT h21 rfl (aQ rfl fh rfl (dp F x23 x25 (e26 h21)) ?_);refine zU h21 rfl (dF (a := x25) (b := 98) rfl rfl) <| zM h21 rfl <| aG (l := [19, 20, 21, 22, 23, 24, 25]) 39 (B ((decide (x25 = 98)) || (decide (x31 = 111)))) (fun K => ?_) ?_
    ·rcases ac (decide (x25 = 98)) with h27 | h27
     ·refine zF h27 rfl <| zF h27 rfl <| zF h27 rfl <| zF h27 rfl <| zU h21 rfl (aq (av := .v _) rfl h27 rfl) ?_;exact K _ 4 _ (an (ek h27)) rfl rfl
     ·refine zM h27 rfl <| zU h27 rfl (aP ah rfl rfl (g28 (fS h21 (nf h27))) e30) <| zT h27 rfl (aQ rfl fh rfl (dp F x29 x31 (e32 (fS h21 (nf h27)))) ?_);refine zU h27 rfl (dF (a := x31) (b := 111) rfl rfl) <| zU h21 rfl (ap (av := .v _) rfl h27 rfl) ?_;exact K _ 4 _ (an (eo h27)) rfl rfl
    refine zM h21 rfl <| aG (l := [25]) 45 (B (((decide (x25 = 98)) || (decide (x31 = 111))) || (decide (x37 = 120)))) (fun K => ?_) ?_
    ·rcases ac ((decide (x25 = 98)) || (decide (x31 = 111))) with h33 | h33
     ·refine zF h33 rfl <| zF h33 rfl <| zF h33 rfl <| zF h33 rfl <| zU h21 rfl (aq (av := .v _) rfl h33 rfl) ?_;exact K _ 4 _ (an (ek h33)) rfl rfl
     ·refine zM h33 rfl <| zU h33 rfl (aP ah rfl rfl (g34 (fS h21 (nf h33))) e36) <| zT h33 rfl (aQ rfl fh rfl (dp F x35 x37 (e38 (fS h21 (nf h33)))) ?_);refine zU h33 rfl (dF (a := x37) (b := 120) rfl rfl) <| zU h21 rfl (ap (av := .v _) rfl h33 rfl) ?_;exact K _ 4 _ (an (eo h33)) rfl rfl
    refine zS rfl (aq (av := .v _) rfl h21 rfl) ?_;exact K _ 8 _ (an (bJ h21)) rfl rfl
   ·refine zF h21 rfl <| zF h21 rfl <| zF h21 rfl <| zF h21 rfl <| zF h21 rfl <| gU rfl rfl rfl rfl rfl <| gU rfl rfl rfl rfl rfl <| gU rfl rfl rfl rfl rfl <| gU rfl rfl rfl rfl rfl <| zF h21 rfl <| zF h21 rfl <| gU rfl rfl rfl rfl rfl <| gU rfl rfl rfl rfl rfl <| gU rfl rfl rfl rfl rfl <| gU rfl rfl rfl rfl rfl <| zF h21 rfl <| zS rfl (ap (av := .v _) rfl h21 rfl) ?_;exact K _ 16 _ (an (bK h21)) rfl rfl
  refine ag <| ay rfl (fun c39 => ?_) (fun c39 => ?_)
  ·replace H := aZ c39 H;refine af <| ab ?_;show AR _ _ _ _ _ [0] _;refine za rfl <| ag <| af <| ab ?_;show AR _ _ _ _ _ [0] _;refine za rfl <| ag ?_;obtain ⟨g40, H⟩ := aI H;obtain ⟨x41, e42, H⟩ := bp H;obtain ⟨x43, e44, H⟩ := cK H;refine ab ?_;show AR _ _ _ _ _ [0, 1, 2, 3, 4] _;refine zm rfl <| zS rfl (aP ah rfl rfl g40 e42) <| bc rfl rfl (aQ rfl fh rfl (dp F x41 x43 e44) ?_);refine zS rfl (dF (a := x43) (b := 120) rfl rfl) <| za rfl <| ag ?_;exact Exists.intro (48, 2, decide (x43 = 120)) ⟨H, aX [] (.cons (.refl _) (.cons (.refl _) (.cons (.refl _) (.cons (.refl _) (.nil _))))) rfl⟩
  ·replace H := ba c39 H;refine aE ?_;exact Exists.intro (94, 0, false) ⟨H, aX [] (.cons (.refl _) (.cons (.refl _) (.cons (.refl _) (.cons (.refl _) (.nil _))))) rfl⟩
 rintro ⟨y45, y46, y47⟩ H;replace H : cD F y15 y45 y46 y47 = some r2 := H
 unfold cD at H
 refine bx (X := Int) (fun y84 => ⟨[(3, .v (.int .i32 y84))], [], []⟩) (fun y84 => di y84 = some r2) ?_ ?_
 ·refine aW <| cf (X := Nat × Int × Int) (fun (n52, y49, y50) => ⟨[(0, S y15), (3, .v (.int .i32 y49)), (4, i64 y50), (5, B y47)], [], []⟩) (fun (n52, y49, y50) => cE F y15 y47 n52 (y49, y50) = some r2) (fun (n52, y49, y50) => n52) (F, y45, y46) H (aX [] (.cons (.refl _) (.cons (.refl _) (.cons (.refl _) (.cons (.refl _) (.nil _))))) rfl) ?_;rintro ⟨n52, y49, y50⟩ H;obtain ⟨n52, rfl, H⟩ := cP H;replace H : eJ F y15 y47 (cE F y15 y47 n52) y49 y50 = some r2 := H
  unfold eJ at H
  refine af <| af <| ab ?_;show AR _ _ _ _ _ [0, 1, 2, 3] _;refine zm rfl <| zm rfl <| zS rfl (be ah rfl) <| zS rfl (bA rfl rfl) <| ag <| ay rfl (fun c53 => ?_) (fun c53 => ?_)
  ·replace H := aZ c53 H;refine aE <| bx (X := Int) (fun y81 => ⟨[(0, S y15), (3, .v (.int .i32 y81)), (4, i64 y50), (5, B y47)], [], []⟩) (fun y81 => ci y50 (cE F y15 y47 n52) y81 = some r2) ?_ ?_
   ·refine aW <| af <| af ?_;obtain ⟨g54, H⟩ := aI H;obtain ⟨x55, e56, H⟩ := bp H;obtain ⟨g58, H⟩ := ce H;obtain ⟨x59, e60, H⟩ := bp H;obtain ⟨g63, H⟩ := ce H;obtain ⟨x64, e65, H⟩ := bp H;obtain ⟨x66, e67, H⟩ := fG H;obtain ⟨g69, H⟩ := ce H;obtain ⟨x70, e71, H⟩ := bp H;obtain ⟨x72, e73, H⟩ := fG H;refine ab ?_;show AR _ _ _ _ _ [0, 1, 2, 3, 4, 5, 6, 7, 8, 9, 10, 11, 12, 13, 14, 15, 16, 17, 18, 19, 20, 21, 22, 23, 24, 25, 26] _;refine zm rfl <| zm rfl <| zS rfl (aP ah rfl rfl g54 e56) <| zS rfl (dT rfl rfl) <| zm rfl <| aG (l := [10, 11, 12, 13, 14, 15, 16, 17, 18, 19, 20, 21, 22, 23, 24, 25, 26]) 66 (B ((decide (48 ≤ (x55.toNat : Int))) && (decide ((x59.toNat : Int) ≤ 57)))) (fun K => ?_) ?_
    ·rcases ac (decide (48 ≤ (x55.toNat : Int))) with h57 | h57
     ·refine zM h57 rfl <| zM h57 rfl <| zU h57 rfl (aP ah rfl rfl (g58 h57) e60) <| zU h57 rfl (dT rfl rfl) <| zS rfl (aq (av := .v _) rfl h57 rfl) ?_;exact K _ 4 _ (an (bJ h57)) rfl rfl
     ·refine zF h57 rfl <| zF h57 rfl <| zF h57 rfl <| zF h57 rfl <| zS rfl (ap (av := .v _) rfl h57 rfl) ?_;exact K _ 4 _ (an (bK h57)) rfl rfl
    refine zm rfl <| aG (l := []) 83 (B (((decide (48 ≤ (x55.toNat : Int))) && (decide ((x59.toNat : Int) ≤ 57))) || ((y47 && (decide (97 ≤ (x66.toNat : Int)))) && (decide ((x72.toNat : Int) ≤ 102))))) (fun K => ?_) ?_
    ·rcases ac ((decide (48 ≤ (x55.toNat : Int))) && (decide ((x59.toNat : Int) ≤ 57))) with h61 | h61
     ·refine zF h61 rfl <| zF h61 rfl <| gU rfl rfl rfl rfl rfl <| gU rfl rfl rfl rfl rfl <| gU rfl rfl rfl rfl rfl <| gU rfl rfl rfl rfl rfl <| gU rfl rfl rfl rfl rfl <| zF h61 rfl <| zF h61 rfl <| gU rfl rfl rfl rfl rfl <| gU rfl rfl rfl rfl rfl <| gU rfl rfl rfl rfl rfl <| gU rfl rfl rfl rfl rfl <| gU rfl rfl rfl rfl rfl <| zF h61 rfl <| zS rfl (aq (av := .v _) rfl h61 rfl) ?_;exact K _ 15 _ (an (ek h61)) rfl rfl
     ·refine zM h61 rfl <| zM h61 rfl <| aG (l := [19, 20, 21, 22, 23, 24, 25, 26]) 75 (B (y47 && (decide (97 ≤ (x66.toNat : Int))))) (fun K => ?_) ?_
      ·rcases ac y47 with h62 | h62
       ·refine zM h62 rfl <| zM h62 rfl <| zU h62 rfl (aP ah rfl rfl (g63 (fS (nf h61) h62)) e65) <| zT h62 rfl (aQ rfl fh rfl (dp F x64 x66 (e67 (fS (nf h61) h62))) ?_);refine zU h62 rfl (dT rfl rfl) <| zU h61 rfl (aq (av := .v _) rfl h62 rfl) ?_;exact K _ 5 _ (an (bJ h62)) rfl rfl
       ·refine zF h62 rfl <| zF h62 rfl <| zF h62 rfl <| zF h62 rfl <| zF h62 rfl <| zU h61 rfl (ap (av := .v _) rfl h62 rfl) ?_;exact K _ 5 _ (an (bK h62)) rfl rfl
      refine zM h61 rfl <| aG (l := [26]) 82 (B ((y47 && (decide (97 ≤ (x66.toNat : Int)))) && (decide ((x72.toNat : Int) ≤ 102)))) (fun K => ?_) ?_
      ·rcases ac (y47 && (decide (97 ≤ (x66.toNat : Int)))) with h68 | h68
       ·refine zM h68 rfl <| zM h68 rfl <| zU h68 rfl (aP ah rfl rfl (g69 (fS (nf h61) h68)) e71) <| zT h68 rfl (aQ rfl fh rfl (dp F x70 x72 (e73 (fS (nf h61) h68))) ?_);refine zU h68 rfl (dT rfl rfl) <| zU h61 rfl (aq (av := .v _) rfl h68 rfl) ?_;exact K _ 5 _ (an (bJ h68)) rfl rfl
       ·refine zF h68 rfl <| zF h68 rfl <| zF h68 rfl <| zF h68 rfl <| zF h68 rfl <| zU h61 rfl (ap (av := .v _) rfl h68 rfl) ?_;exact K _ 5 _ (an (bK h68)) rfl rfl
      refine zS rfl (ap (av := .v _) rfl h61 rfl) ?_;exact K _ 5 _ (an (eo h61)) rfl rfl
    refine ag <| ay rfl (fun c74 => ?_) (fun c74 => ?_)
    ·replace H := aZ c74 H;refine af <| ab ?_;show AR _ _ _ _ _ [0] _;refine za rfl <| ag <| cg ?_;exact Exists.intro 48 ⟨H, aX [] (.cons (.refl _) (.cons (.refl _) (.cons (.refl _) (.cons (.refl _) (.nil _))))) rfl⟩
    ·replace H := ba c74 H;refine aE <| af <| af ?_;obtain ⟨g75, H⟩ := aI H;obtain ⟨x76, e77, H⟩ := bp H;refine ab ?_;show AR _ _ _ _ _ [0, 1, 2, 3] _;refine zm rfl <| zm rfl <| zS rfl (aP ah rfl rfl g75 e77) <| zS rfl (dF (a := x76) (b := 95) rfl rfl) <| ag <| ay rfl (fun c78 => ?_) (fun c78 => ?_)
     ·replace H := aZ c78 H;refine af <| af <| ab ?_;show AR _ _ _ _ _ [0, 1] _;refine zm rfl <| zS rfl (fV rfl rfl) <| ag <| ay rfl (fun c79 => ?_) (fun c79 => ?_)
      ·replace H := aZ c79 H;refine af <| ab ?_;show AR _ _ _ _ _ [0] _;refine za rfl <| ag <| aL ?_;obtain rfl := ak H;exact And.intro rfl (Exists.intro _ (Exists.intro _ ⟨aK rfl (.refl _), aF [] rfl, rfl, rfl⟩))
      ·replace H := ba c79 H;refine aE <| af <| ab ?_;show AR _ _ _ _ _ [0] _;refine za rfl <| ag <| cg ?_;exact Exists.intro 95 ⟨H, aX [] (.cons (.refl _) (.cons (.refl _) (.cons (.refl _) (.cons (.refl _) (.nil _))))) rfl⟩
     ·replace H := ba c78 H;refine aE <| af <| af <| ab ?_;show AR _ _ _ _ _ [0, 1] _;refine zm rfl <| zS rfl (bw rfl rfl) <| ag <| ay rfl (fun c80 => ?_) (fun c80 => ?_)
      ·replace H := aZ c80 H;refine af <| ab ?_;show AR _ _ _ _ _ [0] _;refine za rfl <| ag <| aL ?_;obtain rfl := ak H;exact And.intro rfl (Exists.intro _ (Exists.intro _ ⟨aK rfl (.refl _), aF [] rfl, rfl, rfl⟩))
      ·replace H := ba c80 H;refine aE <| ab ?_;show AR _ _ _ _ _ [0] _;refine za rfl <| ag ?_;exact Exists.intro 33 ⟨H, aX [] (.cons (.refl _) (.cons (.refl _) (.cons (.refl _) (.cons (.refl _) (.nil _))))) rfl⟩
   rintro y81 H;replace H : ci y50 (cE F y15 y47 n52) y81 = some r2 := H
   unfold ci at H
   obtain ⟨g83, H⟩ := aI H;refine ab ?_;show AR _ _ _ _ _ [0, 1, 2] _;refine zm rfl <| zS rfl (dk rfl rfl g83) <| za rfl <| ag ?_;exact Exists.intro (n52, y81, y50 + 1) ⟨H, Nat.lt_succ_self _, aX [] (.cons (.refl _) (.cons (.refl _) (.cons (.refl _) (.cons (.refl _) (.nil _))))) rfl⟩
  ·replace H := ba c53 H;refine cg ?_;exact Exists.intro y49 ⟨H, aX [] (.cons (.refl _) (.nil _)) rfl⟩
 rintro y84 H;replace H : di y84 = some r2 := H
 unfold di at H
 refine af <| ab ?_;show AR _ _ _ _ _ [0, 1, 2] _;refine zm rfl <| zS rfl (fV rfl rfl) <| za rfl <| ag <| aL ?_;obtain rfl := ak H;exact And.intro rfl (Exists.intro _ (Exists.intro _ ⟨aK rfl (.refl _), aF [] rfl, rfl, rfl⟩))
abbrev _root_.Go.Av.bn := @Tryd.underlying108
abbrev _root_.Go.Av.aj := @Tryd.underlying22
abbrev _root_.Go.Av.bj := @Tryd.underlying5
set_option maxRecDepth 100000 in
set_option maxHeartbeats 1000000 in
theorem lq (F : Nat) (a1 : List UInt8) (a2 : Int) (a3 : Int) (r4 : Int) (r5 : Int) (H : eV F a1 a2 a3 = some (r4, r5)) : ACalls Tryd.prog 87 [S a1, i64 a2, i64 a3] [] (Ret (.tup [.v (.int .u64 r4), eK 108 .i64 r5]) []) := by
 unfold eV at H
 refine aA Tryd.func87 rfl rfl ?_;show AW _ _ 172 _ _ _;refine af <| ab ?_;show AR _ _ _ _ _ [0, 1] _;refine za rfl <| za rfl <| ag <| af <| af <| ab ?_;show AR _ _ _ _ _ [0, 1] _;refine zm rfl <| zS rfl (kj rfl rfl) <| ag <| ay rfl (fun c6 => ?_) (fun c6 => ?_)
 ·replace H := aZ c6 H;refine af <| ab ?_;show AR _ _ _ _ _ [0, 1, 2] _;refine zS rfl (bl (a := .v _) bn rfl rfl) <| za rfl <| zS rfl (aO (av := .ifc _ _) rfl) <| ag <| aL ?_;obtain ⟨rfl, rfl⟩ := fg H;exact And.intro rfl (Exists.intro _ (Exists.intro _ ⟨bi rfl (.refl _) (.refl _), aF [] rfl, rfl, rfl⟩))
 ·replace H := ba c6 H;refine aE <| af <| ab ?_;show AR _ _ _ _ _ [0, 1, 2] _;refine zm rfl <| zS rfl (bw rfl rfl) <| za rfl <| ag <| af <| ab ?_;show AR _ _ _ _ _ [0, 1] _;refine zm rfl <| za rfl <| ag <| bx (X := Unit) (fun _ => ⟨[(0, S a1), (1, i64 a2), (2, i64 a3), (8, B (decide (a2 = 0))), (9, S a1)], [], []⟩) (fun _ => dv F a1 a2 a3 = some (r4, r5)) ?_ ?_
  ·refine aW <| af <| ab ?_;show AR _ _ _ _ _ [0, 1, 2, 3, 4, 5, 6] _;refine zm rfl <| zS rfl (dT rfl rfl) <| zm rfl <| aG (l := [6]) 31 (B ((decide (2 ≤ a2)) && (decide (a2 ≤ 36)))) (fun K => ?_) ?_
   ·rcases ac (decide (2 ≤ a2)) with h7 | h7
    ·refine zM h7 rfl <| zU h7 rfl (dT rfl rfl) <| zS rfl (aq (av := .v _) rfl h7 rfl) ?_;exact K _ 2 _ (an (bJ h7)) rfl rfl
    ·refine zF h7 rfl <| zF h7 rfl <| zS rfl (ap (av := .v _) rfl h7 rfl) ?_;exact K _ 2 _ (an (bK h7)) rfl rfl
   refine za rfl <| ag ?_;obtain ⟨g9, H⟩ := aI H;refine ay rfl (fun _ => ?_) (fun hx => dH g9 hx);refine aE ?_;exact Exists.intro () ⟨H, aX [] (.cons (.refl _) (.cons (.refl _) (.cons (.refl _) (.cons (.refl _) (.cons (.refl _) (.nil _)))))) rfl⟩
  rintro _ H;replace H : dv F a1 a2 a3 = some (r4, r5) := H
  unfold dv at H
  refine bx (X := Unit) (fun _ => ⟨[(0, S a1), (1, i64 a2), (2, i64 64), (8, B (decide (a2 = 0))), (9, S a1)], [], []⟩) (fun _ => dw F a1 a2 = some (r4, r5)) ?_ ?_
  ·refine af <| ab ?_;show AR _ _ _ _ _ [0, 1] _;refine zm rfl <| zS rfl (bw rfl rfl) <| ag ?_;obtain ⟨g12, H⟩ := aI H;refine ay rfl (fun _ => ?_) (fun hx => dH g12 hx);refine ab ?_;show AR _ _ _ _ _ [0] _;refine za rfl <| ag ?_;exact Exists.intro () ⟨H, aX [] (.cons (.refl _) (.cons (.refl _) (.cons (.refl _) (.cons (.refl _) (.cons (.refl _) (.nil _)))))) rfl⟩
  rintro _ H;replace H : dw F a1 a2 = some (r4, r5) := H
  unfold dw at H
  refine af <| ab ?_;show AR _ _ _ _ _ [0] _;refine za rfl <| ag <| bx (X := Int) (fun y17 => ⟨[(0, S a1), (1, i64 a2), (2, i64 64), (8, B (decide (a2 = 0))), (9, S a1), (10, .v (.int .u64 y17))], [], []⟩) (fun y17 => ct F a1 a2 y17 = some (r4, r5)) ?_ ?_
  ·refine af <| ab ?_;show AR _ _ _ _ _ [0] _;refine zm rfl <| ag <| aW <| af <| ab ?_;show AR _ _ _ _ _ [0, 1] _;refine zS rfl (bw rfl rfl) <| za rfl <| ag <| ay rfl (fun c14 => ?_) (fun c14 => ?_)
   ·replace H := aZ c14 H;refine ab ?_;show AR _ _ _ _ _ [0] _;refine za rfl <| ag ?_;exact Exists.intro 1844674407370955162 ⟨H, aX [] (.cons (.refl _) (.cons (.refl _) (.cons (.refl _) (.cons (.refl _) (.cons (.refl _) (.cons (.refl _) (.nil _))))))) rfl⟩
   ·replace H := ba c14 H;refine af <| ab ?_;show AR _ _ _ _ _ [0, 1] _;refine zS rfl (bw rfl rfl) <| za rfl <| ag <| ay rfl (fun c15 => ?_) (fun c15 => ?_)
    ·replace H := aZ c15 H;refine ab ?_;show AR _ _ _ _ _ [0] _;refine za rfl <| ag ?_;exact Exists.intro 1152921504606846976 ⟨H, aX [] (.cons (.refl _) (.cons (.refl _) (.cons (.refl _) (.cons (.refl _) (.cons (.refl _) (.cons (.refl _) (.nil _))))))) rfl⟩
    ·replace H := ba c15 H;obtain ⟨g16, H⟩ := aI H;refine ab ?_;show AR _ _ _ _ _ [0, 1, 2, 3, 4] _;refine zm rfl <| zS rfl (ca (by kernel_rfl) Tryd.underlying97 rfl) <| zS rfl (oy rfl rfl (of_decide_eq_true g16)) <| zS rfl (kc rfl rfl) <| za rfl <| ag ?_;exact Exists.intro (IntKind.u64.wrap ((IntKind.u64.wrap (Int.tdiv 18446744073709551615 (IntKind.u64.wrap a2))) + 1)) ⟨H, aX [] (.cons (.refl _) (.cons (.refl _) (.cons (.refl _) (.cons (.refl _) (.cons (.refl _) (.cons (.refl _) (.nil _))))))) rfl⟩
  rintro y17 H;replace H : ct F a1 a2 y17 = some (r4, r5) := H
  unfold ct at H
  refine af ?_;obtain ⟨g19, H⟩ := aI H;refine ab ?_;show AR _ _ _ _ _ [0, 1, 2, 3, 4] _;refine zm rfl <| zS rfl (ca (by kernel_rfl) Tryd.underlying105 rfl) <| zS rfl (pB rfl rfl (of_decide_eq_true g19)) <| zS rfl (kb rfl rfl) <| za rfl <| ag <| af <| ab ?_;show AR _ _ _ _ _ [0] _;refine za rfl <| ag <| af <| ab ?_;show AR _ _ _ _ _ [0] _;refine za rfl <| ag <| bx (X := Bool × Int) (fun (y53, y54) => ⟨[(9, S a1), (12, B y53), (13, .v (.int .u64 y54))], [], []⟩) (fun (y53, y54) => dx F a1 y53 y54 = some (r4, r5)) ?_ ?_
  ·refine af ?_;obtain ⟨g20, H⟩ := aI H;refine ab ?_;show AR _ _ _ _ _ [0, 1, 2, 3] _;refine zm rfl <| zX rfl (fm (bytes := 1) ah aj bj rfl g20) ?_;rintro _ _ ⟨t21, rfl, rfl⟩;refine zS rfl (aR aj rfl) <| zm rfl <| ag <| aW <| cf (X := Nat × Bool × Int × Int) (fun (n26, y22, y23, y24) => ⟨[(1, i64 a2), (8, B (decide (a2 = 0))), (9, S a1), (10, .v (.int .u64 y17)), (11, .v (.int .u64 (IntKind.u64.wrap ((IntKind.u64.wrap (1 * 2 ^ min (Int.toNat (IntKind.u64.wrap 64)) IntKind.u64.bits)) - 1)))), (12, B y22), (13, .v (.int .u64 y23)), (99, slE Enc.byte a1 (some t21)), (100, i64 (a1.length : Int)), (101, i64 y24)], [], [.tok t21 5]⟩) (fun (n26, y22, y23, y24) => bM F a1 a2 y17 n26 (y22, y23, y24) = some (r4, r5)) (fun (n26, y22, y23, y24) => n26) (F, false, 0, 0) H (aX [0] (.cons (.refl _) (.cons (.refl _) (.cons (.refl _) (.cons (.refl _) (.cons (.refl _) (.cons (.refl _) (.cons (.refl _) (.cons (.refl _) (.cons (.refl _) (.cons (.refl _) (.nil _))))))))))) rfl) ?_;rintro ⟨n26, y22, y23, y24⟩ H;obtain ⟨n26, rfl, H⟩ := cP H;replace H : dy F a1 a2 y17 (bM F a1 a2 y17 n26) y22 y23 y24 = some (r4, r5) := H
   unfold dy at H
   refine af <| ab ?_;show AR _ _ _ _ _ [0] _;refine zS rfl (bA rfl rfl) <| ag <| af <| ay rfl (fun c27 => ?_) (fun c27 => ?_)
   ·replace H := aZ c27 H;refine aE <| bx (X := Bool × Int) (fun (y49, y50) => ⟨[(1, i64 a2), (8, B (decide (a2 = 0))), (9, S a1), (10, .v (.int .u64 y17)), (11, .v (.int .u64 (IntKind.u64.wrap ((IntKind.u64.wrap (1 * 2 ^ min (Int.toNat (IntKind.u64.wrap 64)) IntKind.u64.bits)) - 1)))), (12, B y49), (13, .v (.int .u64 y50)), (99, slE Enc.byte a1 (some t21)), (100, i64 (a1.length : Int)), (101, i64 y24)], [], [.tok t21 5]⟩) (fun (y49, y50) => cL y24 (bM F a1 a2 y17 n26) y49 y50 = some (r4, r5)) ?_ ?_
    ·refine aW <| af ?_;obtain ⟨g28, H⟩ := aI H;obtain ⟨x29, e30, H⟩ := bp H;refine ab ?_;show AR _ _ _ _ _ [0, 1, 2] _;refine zS rfl (bk (E := Enc.byte) aj (by kernel_rfl) rfl rfl g28 e30) <| zS rfl (aD bj rfl rfl) <| za rfl <| ag <| af <| ab ?_;show AR _ _ _ _ _ [0] _;refine za rfl <| ag <| bx (X := UInt8) (fun y43 => ⟨[(1, i64 a2), (8, B (decide (a2 = 0))), (9, S a1), (10, .v (.int .u64 y17)), (11, .v (.int .u64 (IntKind.u64.wrap ((IntKind.u64.wrap (1 * 2 ^ min (Int.toNat (IntKind.u64.wrap 64)) IntKind.u64.bits)) - 1)))), (12, B y22), (13, .v (.int .u64 y23)), (16, u8 y43), (99, slE Enc.byte a1 (some t21)), (100, i64 (a1.length : Int)), (101, i64 y24)], [], [.tok t21 5]⟩) (fun y43 => cu a2 y17 y22 y23 y24 (bM F a1 a2 y17 n26) y43 = some (r4, r5)) ?_ ?_
     ·refine aW <| af <| ab ?_;show AR _ _ _ _ _ [0, 1, 2, 3, 4, 5] _;refine zm rfl <| zS rfl (dF (a := x29) (b := 95) rfl rfl) <| zm rfl <| aG (l := [5]) 111 (B ((decide (x29 = 95)) && (decide (a2 = 0)))) (fun K => ?_) ?_
      ·rcases ac (decide (x29 = 95)) with h31 | h31
       ·refine zM h31 rfl <| zS rfl (aq (av := .v _) rfl h31 rfl) ?_;exact K _ 1 _ (an (bJ h31)) rfl rfl
       ·refine zF h31 rfl <| zS rfl (ap (av := .v _) rfl h31 rfl) ?_;exact K _ 1 _ (an (bK h31)) rfl rfl
      refine za rfl <| ag <| ay rfl (fun c32 => ?_) (fun c32 => ?_)
      ·replace H := aZ c32 H;refine af <| ab ?_;show AR _ _ _ _ _ [0] _;refine za rfl <| ag <| cg ?_;exact Exists.intro (true, y23) ⟨H, aX [0] (.cons (.refl _) (.cons (.refl _) (.cons (.refl _) (.cons (.refl _) (.cons (.refl _) (.cons (.refl _) (.cons (.refl _) (.cons (.refl _) (.cons (.refl _) (.cons (.refl _) (.nil _))))))))))) rfl⟩
      ·replace H := ba c32 H;refine af <| ab ?_;show AR _ _ _ _ _ [0, 1, 2, 3, 4, 5, 6] _;refine zm rfl <| zS rfl (dT rfl rfl) <| zm rfl <| aG (l := [6]) 118 (B ((decide (48 ≤ (x29.toNat : Int))) && (decide ((x29.toNat : Int) ≤ 57)))) (fun K => ?_) ?_
       ·rcases ac (decide (48 ≤ (x29.toNat : Int))) with h33 | h33
        ·refine zM h33 rfl <| zU h33 rfl (dT rfl rfl) <| zS rfl (aq (av := .v _) rfl h33 rfl) ?_;exact K _ 2 _ (an (bJ h33)) rfl rfl
        ·refine zF h33 rfl <| zF h33 rfl <| zS rfl (ap (av := .v _) rfl h33 rfl) ?_;exact K _ 2 _ (an (bK h33)) rfl rfl
       refine za rfl <| ag <| ay rfl (fun c34 => ?_) (fun c34 => ?_)
       ·replace H := aZ c34 H;refine ab ?_;show AR _ _ _ _ _ [0, 1, 2] _;refine zm rfl <| zS rfl (nD (a := x29) (b := 48) rfl rfl) <| za rfl <| ag ?_;exact Exists.intro (x29 - 48) ⟨H, aX [0] (.cons (.refl _) (.cons (.refl _) (.cons (.refl _) (.cons (.refl _) (.cons (.refl _) (.cons (.refl _) (.cons (.refl _) (.cons (.refl _) (.cons (.refl _) (.cons (.refl _) (.cons (.refl _) (.nil _)))))))))))) rfl⟩
       ·replace H := ba c34 H;refine af ?_;obtain ⟨x35, e36, H⟩ := cK H;obtain ⟨x38, e39, H⟩ := fG H;refine ab ?_;show AR _ _ _ _ _ [0, 1, 2, 3, 4, 5, 6, 7, 8] _;refine zm rfl <| bc rfl rfl (aQ rfl fh rfl (dp F x29 x35 e36) ?_);refine zS rfl (dT rfl rfl) <| zm rfl <| aG (l := [8]) 129 (B ((decide (97 ≤ (x35.toNat : Int))) && (decide ((x38.toNat : Int) ≤ 122)))) (fun K => ?_) ?_
        ·rcases ac (decide (97 ≤ (x35.toNat : Int))) with h37 | h37
         ·refine zM h37 rfl <| zT h37 rfl (aQ rfl fh rfl (dp F x29 x38 (e39 h37)) ?_);refine zU h37 rfl (dT rfl rfl) <| zS rfl (aq (av := .v _) rfl h37 rfl) ?_;exact K _ 3 _ (an (bJ h37)) rfl rfl
         ·refine zF h37 rfl <| zF h37 rfl <| zF h37 rfl <| zS rfl (ap (av := .v _) rfl h37 rfl) ?_;exact K _ 3 _ (an (bK h37)) rfl rfl
        refine za rfl <| ag <| ay rfl (fun c40 => ?_) (fun c40 => ?_)
        ·replace H := aZ c40 H;obtain ⟨x41, e42, H⟩ := cK H;refine ab ?_;show AR _ _ _ _ _ [0, 1, 2, 3, 4] _;refine zm rfl <| bc rfl rfl (aQ rfl fh rfl (dp F x29 x41 e42) ?_);refine zS rfl (nD (a := x41) (b := 97) rfl rfl) <| zS rfl (g_add8 (a := x41 - 97) (b := 10) rfl rfl) <| za rfl <| ag ?_;exact Exists.intro ((x41 - 97) + 10) ⟨H, aX [0] (.cons (.refl _) (.cons (.refl _) (.cons (.refl _) (.cons (.refl _) (.cons (.refl _) (.cons (.refl _) (.cons (.refl _) (.cons (.refl _) (.cons (.refl _) (.cons (.refl _) (.cons (.refl _) (.nil _)))))))))))) rfl⟩
        ·replace H := ba c40 H;refine af <| ab ?_;show AR _ _ _ _ _ [0, 1, 2] _;refine zS rfl (bl (a := .v _) bn rfl rfl) <| za rfl <| zS rfl (aO (av := .ifc _ _) rfl) <| ag <| aL ?_;obtain ⟨rfl, rfl⟩ := fg H;exact And.intro rfl (Exists.intro _ (Exists.intro _ ⟨bi rfl (.refl _) (.refl _), aF [] rfl, rfl, rfl⟩))
     rintro y43 H;replace H : cu a2 y17 y22 y23 y24 (bM F a1 a2 y17 n26) y43 = some (r4, r5) := H
     unfold cu at H
     refine af <| af <| ab ?_;show AR _ _ _ _ _ [0, 1, 2, 3] _;refine zm rfl <| zm rfl <| zS rfl (lG (by kernel_rfl) bj rfl) <| zS rfl (fF rfl rfl) <| ag <| ay rfl (fun c45 => ?_) (fun c45 => ?_)
     ·replace H := aZ c45 H;refine af <| ab ?_;show AR _ _ _ _ _ [0, 1, 2] _;refine zS rfl (bl (a := .v _) bn rfl rfl) <| za rfl <| zS rfl (aO (av := .ifc _ _) rfl) <| ag <| aL ?_;obtain ⟨rfl, rfl⟩ := fg H;exact And.intro rfl (Exists.intro _ (Exists.intro _ ⟨bi rfl (.refl _) (.refl _), aF [] rfl, rfl, rfl⟩))
     ·replace H := ba c45 H;refine aE <| af <| af <| ab ?_;show AR _ _ _ _ _ [0, 1, 2] _;refine zm rfl <| zm rfl <| zS rfl (fF rfl rfl) <| ag <| ay rfl (fun c46 => ?_) (fun c46 => ?_)
      ·replace H := aZ c46 H;refine af <| ab ?_;show AR _ _ _ _ _ [0, 1, 2, 3] _;refine zm rfl <| zS rfl (bl (a := .v _) bn rfl rfl) <| za rfl <| zS rfl (aO (av := .ifc _ _) rfl) <| ag <| aL ?_;obtain ⟨rfl, rfl⟩ := fg H;exact And.intro rfl (Exists.intro _ (Exists.intro _ ⟨bi rfl (.refl _) (.refl _), aF [] rfl, rfl, rfl⟩))
      ·replace H := ba c46 H;refine aE <| af <| ab ?_;show AR _ _ _ _ _ [0, 1, 2, 3, 4] _;refine zm rfl <| zm rfl <| zS rfl (ca (by kernel_rfl) Tryd.underlying97 rfl) <| zS rfl (oz rfl rfl) <| za rfl <| ag <| af <| ab ?_;show AR _ _ _ _ _ [0, 1, 2, 3, 4] _;refine zm rfl <| zm rfl <| zS rfl (ca (k' := .u8) (n := (y43.toNat : Int)) (by kernel_rfl) Tryd.underlying97 rfl) <| zS rfl (kc rfl rfl) <| za rfl <| ag <| af <| af <| ab ?_;show AR _ _ _ _ _ [0, 1, 2, 3, 4, 5, 6, 7] _;refine zm rfl <| zm rfl <| zS rfl (bA rfl rfl) <| zm rfl <| aG (l := []) 159 (B ((decide (IntKind.u64.wrap ((IntKind.u64.wrap (y23 * (IntKind.u64.wrap a2))) + (IntKind.u64.wrap (y43.toNat : Int))) < IntKind.u64.wrap (y23 * (IntKind.u64.wrap a2)))) || (decide (IntKind.u64.wrap ((IntKind.u64.wrap (1 * 2 ^ min (Int.toNat (IntKind.u64.wrap 64)) IntKind.u64.bits)) - 1) < IntKind.u64.wrap ((IntKind.u64.wrap (y23 * (IntKind.u64.wrap a2))) + (IntKind.u64.wrap (y43.toNat : Int))))))) (fun K => ?_) ?_
       ·rcases ac (decide (IntKind.u64.wrap ((IntKind.u64.wrap (y23 * (IntKind.u64.wrap a2))) + (IntKind.u64.wrap (y43.toNat : Int))) < IntKind.u64.wrap (y23 * (IntKind.u64.wrap a2)))) with h47 | h47
        ·refine zF h47 rfl <| zF h47 rfl <| zF h47 rfl <| zS rfl (aq (av := .v _) rfl h47 rfl) ?_;exact K _ 3 _ (an (ek h47)) rfl rfl
        ·refine zM h47 rfl <| zM h47 rfl <| zU h47 rfl (cO rfl rfl) <| zS rfl (ap (av := .v _) rfl h47 rfl) ?_;exact K _ 3 _ (an (eo h47)) rfl rfl
       refine ag <| ay rfl (fun c48 => ?_) (fun c48 => ?_)
       ·replace H := aZ c48 H;refine af <| ab ?_;show AR _ _ _ _ _ [0, 1, 2, 3] _;refine zm rfl <| zS rfl (bl (a := .v _) bn rfl rfl) <| za rfl <| zS rfl (aO (av := .ifc _ _) rfl) <| ag <| aL ?_;obtain ⟨rfl, rfl⟩ := fg H;exact And.intro rfl (Exists.intro _ (Exists.intro _ ⟨bi rfl (.refl _) (.refl _), aF [] rfl, rfl, rfl⟩))
       ·replace H := ba c48 H;refine aE <| ab ?_;show AR _ _ _ _ _ [0, 1] _;refine zm rfl <| za rfl <| ag ?_;exact Exists.intro (y22, IntKind.u64.wrap ((IntKind.u64.wrap (y23 * (IntKind.u64.wrap a2))) + (IntKind.u64.wrap (y43.toNat : Int)))) ⟨H, aX [0] (.cons (.refl _) (.cons (.refl _) (.cons (.refl _) (.cons (.refl _) (.cons (.refl _) (.cons (.refl _) (.cons (.refl _) (.cons (.refl _) (.cons (.refl _) (.cons (.refl _) (.nil _))))))))))) rfl⟩
    rintro ⟨y49, y50⟩ H;replace H : cL y24 (bM F a1 a2 y17 n26) y49 y50 = some (r4, r5) := H
    unfold cL at H
    obtain ⟨g52, H⟩ := aI H;refine ab ?_;show AR _ _ _ _ _ [0, 1] _;refine zS rfl (dk rfl rfl g52) <| zm rfl <| ag ?_;exact Exists.intro (n26, y49, y50, y24 + 1) ⟨H, Nat.lt_succ_self _, aX [0] (.cons (.refl _) (.cons (.refl _) (.cons (.refl _) (.cons (.refl _) (.cons (.refl _) (.cons (.refl _) (.cons (.refl _) (.cons (.refl _) (.cons (.refl _) (.cons (.refl _) (.nil _))))))))))) rfl⟩
   ·replace H := ba c27 H;refine cg ?_;exact Exists.intro (y22, y23) ⟨H, aX [] (.cons (.refl _) (.cons (.refl _) (.cons (.refl _) (.nil _)))) rfl⟩
  rintro ⟨y53, y54⟩ H;replace H : dx F a1 y53 y54 = some (r4, r5) := H
  unfold dx at H
  refine af <| af ?_;obtain ⟨x57, e58, H⟩ := fG H;refine ab ?_;show AR _ _ _ _ _ [0, 1, 2, 3, 4, 5] _;refine zm rfl <| zm rfl <| aG (l := []) 169 (B (y53 && (!x57))) (fun K => ?_) ?_
  ·rcases ac y53 with h56 | h56
   ·refine zM h56 rfl <| zT h56 rfl (aQ rfl en96_num rfl (jB F a1 x57 (e58 h56)) ?_);refine zU h56 rfl (dS rfl) <| zS rfl (aq (av := .v _) rfl h56 rfl) ?_;exact K _ 3 _ (an (bJ h56)) rfl rfl
   ·refine zF h56 rfl <| zF h56 rfl <| zF h56 rfl <| zS rfl (ap (av := .v _) rfl h56 rfl) ?_;exact K _ 3 _ (an (bK h56)) rfl rfl
  refine ag <| ay rfl (fun c59 => ?_) (fun c59 => ?_)
  ·replace H := aZ c59 H;refine af <| ab ?_;show AR _ _ _ _ _ [0, 1, 2] _;refine zS rfl (bl (a := .v _) bn rfl rfl) <| za rfl <| zS rfl (aO (av := .ifc _ _) rfl) <| ag <| aL ?_;obtain ⟨rfl, rfl⟩ := fg H;exact And.intro rfl (Exists.intro _ (Exists.intro _ ⟨bi rfl (.refl _) (.refl _), aF [] rfl, rfl, rfl⟩))
  ·replace H := ba c59 H;refine aE <| af <| ab ?_;show AR _ _ _ _ _ [0, 1, 2] _;refine zm rfl <| za rfl <| za rfl <| ag <| aL ?_;obtain ⟨rfl, rfl⟩ := fg H;exact And.intro rfl (Exists.intro _ (Exists.intro _ ⟨bi rfl (.refl _) (.refl _), aF [] rfl, rfl, rfl⟩))
abbrev _root_.Go.Av.cS := @Tryd.underlying81
set_option maxRecDepth 100000 in
set_option maxHeartbeats 1000000 in
theorem lr (F : Nat) (a1 : List UInt8) (a2 : Int) (a3 : Int) (r4 : Int) (r5 : Int) (H : eW F a1 a2 a3 = some (r4, r5)) : ACalls Tryd.prog 72 [S a1, i64 a2, i64 a3] [] (Ret (.tup [i64 r4, eK 108 .i64 r5]) []) := by
 unfold eW at H
 refine aA Tryd.func72 rfl rfl ?_;show AW _ _ 73 _ _ _;refine af <| ab ?_;show AR _ _ _ _ _ [0, 1] _;refine za rfl <| za rfl <| ag <| af <| af <| ab ?_;show AR _ _ _ _ _ [0, 1] _;refine zm rfl <| zS rfl (kj rfl rfl) <| ag <| ay rfl (fun c6 => ?_) (fun c6 => ?_)
 ·replace H := aZ c6 H;refine af <| ab ?_;show AR _ _ _ _ _ [0, 1, 2] _;refine zS rfl (bl (a := .v _) bn rfl rfl) <| za rfl <| zS rfl (aO (av := .ifc _ _) rfl) <| ag <| aL ?_;obtain ⟨rfl, rfl⟩ := fg H;exact And.intro rfl (Exists.intro _ (Exists.intro _ ⟨bi rfl (.refl _) (.refl _), aF [] rfl, rfl, rfl⟩))
 ·replace H := ba c6 H;refine aE <| af <| ab ?_;show AR _ _ _ _ _ [0] _;refine za rfl <| ag <| bx (X := (List UInt8) × Bool) (fun (y18, y19) => ⟨[(0, S y18), (1, i64 a2), (2, i64 a3), (8, B y19)], [], []⟩) (fun (y18, y19) => cc F a2 a3 y18 y19 = some (r4, r5)) ?_ ?_
  ·refine af ?_;obtain ⟨g7, H⟩ := aI H;obtain ⟨x8, e9, H⟩ := bp H;refine ab ?_;show AR _ _ _ _ _ [0, 1] _;refine zm rfl <| zS rfl (aP ah rfl rfl g7 e9) <| ag <| aW <| af <| ab ?_;show AR _ _ _ _ _ [0, 1] _;refine zS rfl (dF (a := x8) (b := 43) rfl rfl) <| za rfl <| ag <| ay rfl (fun c10 => ?_) (fun c10 => ?_)
   ·replace H := aZ c10 H;obtain ⟨g11, H⟩ := aI H;obtain ⟨x12, e13, H⟩ := bp H;refine ab ?_;show AR _ _ _ _ _ [0, 1, 2] _;refine zm rfl <| zS rfl (du ah rfl rfl g11 e13) <| za rfl <| ag ?_;exact Exists.intro (x12, false) ⟨H, aX [] (.cons (.refl _) (.cons (.refl _) (.cons (.refl _) (.cons (.refl _) (.nil _))))) rfl⟩
   ·replace H := ba c10 H;refine af <| ab ?_;show AR _ _ _ _ _ [0, 1] _;refine zS rfl (dF (a := x8) (b := 45) rfl rfl) <| za rfl <| ag <| ay rfl (fun c14 => ?_) (fun c14 => ?_)
    ·replace H := aZ c14 H;refine af ?_;obtain ⟨g15, H⟩ := aI H;obtain ⟨x16, e17, H⟩ := bp H;refine ab ?_;show AR _ _ _ _ _ [0, 1, 2] _;refine zm rfl <| zS rfl (du ah rfl rfl g15 e17) <| za rfl <| ag <| ab ?_;show AR _ _ _ _ _ [0] _;refine za rfl <| ag ?_;exact Exists.intro (x16, true) ⟨H, aX [] (.cons (.refl _) (.cons (.refl _) (.cons (.refl _) (.cons (.refl _) (.nil _))))) rfl⟩
    ·replace H := ba c14 H;refine aE ?_;exact Exists.intro (a1, false) ⟨H, aX [] (.cons (.refl _) (.cons (.refl _) (.cons (.refl _) (.cons (.refl _) (.nil _))))) rfl⟩
  rintro ⟨y18, y19⟩ H;replace H : cc F a2 a3 y18 y19 = some (r4, r5) := H
  unfold cc at H
  refine af <| ab ?_;show AR _ _ _ _ _ [0] _;refine za rfl <| ag <| af ?_;obtain ⟨x21, x22, e23, H⟩ := fH H;refine ab ?_;show AR _ _ _ _ _ [0, 1, 2, 3, 4, 5, 6, 7, 8] _;refine zm rfl <| zm rfl <| zm rfl <| bc rfl rfl (aQ rfl en87_num rfl (lq F y18 a2 a3 x21 x22 e23) ?_);refine zS rfl (au (av := .tup _) rfl) <| zS rfl (aN (av := .v _) rfl rfl) <| zS rfl (aN (av := eK _ _ _) rfl rfl) <| za rfl <| zS rfl (aO (av := eK _ _ _) rfl) <| ag <| af <| af <| ab ?_;show AR _ _ _ _ _ [0, 1, 2, 3, 4, 5, 6] _;refine zS rfl (au (av := eK _ _ _) rfl) <| zS rfl (jy cS rfl rfl) <| zm rfl <| aG (l := []) 38 (B ((!decide (x22 = 0)) && (!decide (x22 = 1)))) (fun K => ?_) ?_
  ·rcases ac (!decide (x22 = 0)) with h24 | h24
   ·refine zU h24 rfl (au (av := eK _ _ _) rfl) <| zU h24 rfl (bl (a := .v _) bn rfl rfl) <| zU h24 rfl (qg (m := 1) cS rfl bn (by kernel_rfl) (by decide) rfl rfl) <| zS rfl (aq (av := .v _) rfl h24 rfl) ?_;exact K _ 3 _ (an (bJ h24)) rfl rfl
   ·refine zF h24 rfl <| zF h24 rfl <| zF h24 rfl <| zS rfl (ap (av := .v _) rfl h24 rfl) ?_;exact K _ 3 _ (an (bK h24)) rfl rfl
  refine ag <| ay rfl (fun c25 => ?_) (fun c25 => ?_)
  ·replace H := aZ c25 H;refine af <| ab ?_;show AR _ _ _ _ _ [0, 1, 2] _;refine zS rfl (au (av := eK _ _ _) rfl) <| za rfl <| zS rfl (aO (av := eK _ _ _) rfl) <| ag <| aL ?_;obtain ⟨rfl, rfl⟩ := fg H;exact And.intro rfl (Exists.intro _ (Exists.intro _ ⟨bi rfl (.refl _) (.refl _), aF [] rfl, rfl, rfl⟩))
  ·replace H := ba c25 H;refine aE <| bx (X := Unit) (fun _ => ⟨[(2, i64 64), (8, B y19), (9, .v (.int .u64 x21))], [], []⟩) (fun _ => cM y19 x21 = some (r4, r5)) ?_ ?_
   ·refine af <| ab ?_;show AR _ _ _ _ _ [0, 1] _;refine zm rfl <| zS rfl (bw rfl rfl) <| ag ?_;obtain ⟨g27, H⟩ := aI H;refine ay rfl (fun _ => ?_) (fun hx => dH g27 hx);refine ab ?_;show AR _ _ _ _ _ [0] _;refine za rfl <| ag ?_;exact Exists.intro () ⟨H, aX [] (.cons (.refl _) (.cons (.refl _) (.cons (.refl _) (.nil _)))) rfl⟩
   rintro _ H;replace H : cM y19 x21 = some (r4, r5) := H
   unfold cM at H
   refine af ?_;obtain ⟨g29, H⟩ := aI H;refine ab ?_;show AR _ _ _ _ _ [0, 1, 2, 3, 4] _;refine zm rfl <| zS rfl (OpS.eq (av' := i64 63) (jd rfl rfl (by decide)) rfl) <| zS rfl (ca (by kernel_rfl) Tryd.underlying105 rfl) <| zS rfl (pB rfl rfl (of_decide_eq_true g29)) <| za rfl <| ag <| af <| af <| ab ?_;show AR _ _ _ _ _ [0, 1, 2, 3, 4, 5, 6] _;refine zm rfl <| zS rfl (dS rfl) <| zm rfl <| aG (l := []) 52 (B ((!y19) && (decide (IntKind.u64.wrap (1 * 2 ^ min (Int.toNat (IntKind.u64.wrap 63)) IntKind.u64.bits) ≤ x21)))) (fun K => ?_) ?_
   ·rcases ac (!y19) with h30 | h30
    ·refine zM h30 rfl <| zM h30 rfl <| zU h30 rfl (fF rfl rfl) <| zS rfl (aq (av := .v _) rfl h30 rfl) ?_;exact K _ 3 _ (an (bJ h30)) rfl rfl
    ·refine zF h30 rfl <| zF h30 rfl <| zF h30 rfl <| zS rfl (ap (av := .v _) rfl h30 rfl) ?_;exact K _ 3 _ (an (bK h30)) rfl rfl
   refine ag <| ay rfl (fun c31 => ?_) (fun c31 => ?_)
   ·replace H := aZ c31 H;refine af <| ab ?_;show AR _ _ _ _ _ [0, 1, 2, 3, 4, 5] _;refine zm rfl <| zS rfl (kb rfl rfl) <| zS rfl (ca (by kernel_rfl) Tryd.underlying2 rfl) <| zS rfl (bl (a := .v _) bn rfl rfl) <| za rfl <| zS rfl (aO (av := .ifc _ _) rfl) <| ag <| aL ?_;obtain ⟨rfl, rfl⟩ := fg H;exact And.intro rfl (Exists.intro _ (Exists.intro _ ⟨bi rfl (.refl _) (.refl _), aF [] rfl, rfl, rfl⟩))
   ·replace H := ba c31 H;refine aE <| af <| af <| ab ?_;show AR _ _ _ _ _ [0, 1, 2, 3, 4, 5] _;refine zm rfl <| zm rfl <| aG (l := []) 62 (B (y19 && (decide (IntKind.u64.wrap (1 * 2 ^ min (Int.toNat (IntKind.u64.wrap 63)) IntKind.u64.bits) < x21)))) (fun K => ?_) ?_
    ·rcases ac y19 with h32 | h32
     ·refine zM h32 rfl <| zM h32 rfl <| zU h32 rfl (cO rfl rfl) <| zS rfl (aq (av := .v _) rfl h32 rfl) ?_;exact K _ 3 _ (an (bJ h32)) rfl rfl
     ·refine zF h32 rfl <| zF h32 rfl <| zF h32 rfl <| zS rfl (ap (av := .v _) rfl h32 rfl) ?_;exact K _ 3 _ (an (bK h32)) rfl rfl
    refine ag <| ay rfl (fun c33 => ?_) (fun c33 => ?_)
    ·replace H := aZ c33 H;refine af <| ab ?_;show AR _ _ _ _ _ [0, 1, 2, 3, 4, 5] _;refine zm rfl <| zS rfl (ca (by kernel_rfl) Tryd.underlying2 rfl) <| zS rfl (lK rfl) <| zS rfl (bl (a := .v _) bn rfl rfl) <| za rfl <| zS rfl (aO (av := .ifc _ _) rfl) <| ag <| aL ?_;obtain ⟨rfl, rfl⟩ := fg H;exact And.intro rfl (Exists.intro _ (Exists.intro _ ⟨bi rfl (.refl _) (.refl _), aF [] rfl, rfl, rfl⟩))
    ·replace H := ba c33 H;refine aE <| af <| ab ?_;show AR _ _ _ _ _ [0, 1, 2] _;refine zm rfl <| zS rfl (ca (by kernel_rfl) Tryd.underlying2 rfl) <| za rfl <| ag <| bx (X := Int) (fun y35 => ⟨[(11, i64 y35)], [], []⟩) (fun y35 => cN y35 = some (r4, r5)) ?_ ?_
     ·refine af <| ab ?_;show AR _ _ _ _ _ [0] _;refine zm rfl <| ag <| ay rfl (fun c34 => ?_) (fun c34 => ?_)
      ·replace H := aZ c34 H;refine ab ?_;show AR _ _ _ _ _ [0, 1, 2] _;refine zm rfl <| zS rfl (lK rfl) <| za rfl <| ag ?_;exact Exists.intro (IntKind.i64.wrap (0 - (IntKind.i64.wrap x21))) ⟨H, aX [] (.cons (.refl _) (.nil _)) rfl⟩
      ·replace H := ba c34 H;refine aE ?_;exact Exists.intro (IntKind.i64.wrap x21) ⟨H, aX [] (.cons (.refl _) (.nil _)) rfl⟩
     rintro y35 H;replace H : cN y35 = some (r4, r5) := H
     unfold cN at H
     refine af <| ab ?_;show AR _ _ _ _ _ [0, 1, 2] _;refine zm rfl <| za rfl <| za rfl <| ag <| aL ?_;obtain ⟨rfl, rfl⟩ := fg H;exact And.intro rfl (Exists.intro _ (Exists.intro _ ⟨bi rfl (.refl _) (.refl _), aF [] rfl, rfl, rfl⟩))
abbrev _root_.Go.Av.az := @Tryd.underlying3
set_option maxRecDepth 100000 in
set_option maxHeartbeats 1000000 in
theorem pM (F : Nat) (a1 : List UInt8) (r2 : Int) (r3 : Int) (H : fU F a1 = some (r2, r3)) : ACalls Tryd.prog 58 [S a1] [] (Ret (.tup [i64 r2, eK 108 .i64 r3]) []) := by
 unfold fU at H
 refine aA Tryd.func58 rfl rfl ?_;show AW _ _ 77 _ _ _;refine af <| ab ?_;show AR _ _ _ _ _ [0, 1] _;refine za rfl <| za rfl <| ag <| af <| ab ?_;show AR _ _ _ _ _ [0, 1, 2] _;refine zm rfl <| zS rfl (be ah rfl) <| za rfl <| ag <| bx (X := Unit) (fun _ => ⟨[(0, S a1)], [], []⟩) (fun _ => fp F a1 = some (r2, r3)) ?_ ?_
 ·refine af <| ab ?_;show AR _ _ _ _ _ [0, 1, 2, 3, 4, 5, 6, 7, 8, 9, 10, 11, 12, 13, 14, 15, 16, 17] _;refine zm rfl <| zF rfl rfl <| zF rfl rfl <| zF rfl rfl <| gU rfl rfl rfl rfl rfl <| gU rfl rfl rfl rfl rfl <| zF rfl rfl <| zS rfl (ap (av := .v _) rfl rfl rfl) <| zm rfl <| zM rfl rfl <| zM rfl rfl <| zU rfl rfl (bA rfl rfl) <| zM rfl rfl <| aG (l := [16, 17]) 28 (B ((decide (0 < (a1.length : Int))) && (decide ((a1.length : Int) < 19)))) (fun K => ?_) ?_
  ·rcases ac (decide (0 < (a1.length : Int))) with h4 | h4
   ·refine zM h4 rfl <| zU h4 rfl (bA rfl rfl) <| zU rfl rfl (aq (av := .v _) rfl h4 rfl) ?_;exact K _ 2 _ (an (bJ h4)) rfl rfl
   ·refine zF h4 rfl <| zF h4 rfl <| zU rfl rfl (ap (av := .v _) rfl h4 rfl) ?_;exact K _ 2 _ (an (bK h4)) rfl rfl
  refine zU rfl rfl (aq (av := .v _) rfl rfl rfl) <| zS rfl (ap (av := .v _) rfl rfl rfl) <| ag <| ay rfl (fun c5 => ?_) (fun c5 => ?_)
  ·replace H := aZ c5 H;refine af <| ab ?_;show AR _ _ _ _ _ [0, 1] _;refine zm rfl <| za rfl <| ag <| bx (X := (List UInt8)) (fun y18 => ⟨[(0, S y18), (5, S a1)], [], []⟩) (fun y18 => ee F a1 y18 = some (r2, r3)) ?_ ?_
   ·refine af ?_;obtain ⟨g6, H⟩ := aI H;obtain ⟨x7, e8, H⟩ := bp H;obtain ⟨g10, H⟩ := ce H;obtain ⟨x11, e12, H⟩ := bp H;refine ab ?_;show AR _ _ _ _ _ [0, 1, 2, 3, 4, 5, 6, 7] _;refine zm rfl <| zS rfl (aP ah rfl rfl g6 e8) <| zS rfl (dF (a := x7) (b := 45) rfl rfl) <| zm rfl <| aG (l := []) 39 (B ((decide (x7 = 45)) || (decide (x11 = 43)))) (fun K => ?_) ?_
    ·rcases ac (decide (x7 = 45)) with h9 | h9
     ·refine zF h9 rfl <| zF h9 rfl <| zF h9 rfl <| zS rfl (aq (av := .v _) rfl h9 rfl) ?_;exact K _ 3 _ (an (ek h9)) rfl rfl
     ·refine zM h9 rfl <| zU h9 rfl (aP ah rfl rfl (g10 (nf h9)) e12) <| zU h9 rfl (dF (a := x11) (b := 43) rfl rfl) <| zS rfl (ap (av := .v _) rfl h9 rfl) ?_;exact K _ 3 _ (an (eo h9)) rfl rfl
    refine ag <| ay rfl (fun c13 => ?_) (fun c13 => ?_)
    ·replace H := aZ c13 H;refine af ?_;obtain ⟨g14, H⟩ := aI H;obtain ⟨x15, e16, H⟩ := bp H;refine ab ?_;show AR _ _ _ _ _ [0, 1, 2] _;refine zm rfl <| zS rfl (du ah rfl rfl g14 e16) <| za rfl <| ag <| af <| ab ?_;show AR _ _ _ _ _ [0, 1, 2] _;refine zm rfl <| zS rfl (be ah rfl) <| zS rfl (bA rfl rfl) <| ag <| ay rfl (fun c17 => ?_) (fun c17 => ?_)
     ·replace H := aZ c17 H;refine af <| ab ?_;show AR _ _ _ _ _ [0, 1, 2] _;refine zS rfl (bl (a := .v _) bn rfl rfl) <| za rfl <| zS rfl (aO (av := .ifc _ _) rfl) <| ag <| aL ?_;obtain ⟨rfl, rfl⟩ := fg H;exact And.intro rfl (Exists.intro _ (Exists.intro _ ⟨bi rfl (.refl _) (.refl _), aF [] rfl, rfl, rfl⟩))
     ·replace H := ba c17 H;refine aE ?_;exact Exists.intro x15 ⟨H, aX [] (.cons (.refl _) (.cons (.refl _) (.nil _))) rfl⟩
    ·replace H := ba c13 H;refine aE ?_;exact Exists.intro a1 ⟨H, aX [] (.cons (.refl _) (.cons (.refl _) (.nil _))) rfl⟩
   rintro y18 H;replace H : ee F a1 y18 = some (r2, r3) := H
   unfold ee at H
   refine af <| ab ?_;show AR _ _ _ _ _ [0] _;refine za rfl <| ag <| bx (X := Int) (fun y34 => ⟨[(5, S a1), (6, i64 y34)], [], []⟩) (fun y34 => ef a1 y34 = some (r2, r3)) ?_ ?_
   ·refine af ?_;obtain ⟨g20, H⟩ := aI H;refine ab ?_;show AR _ _ _ _ _ [0, 1, 2, 3] _;refine zm rfl <| zX rfl (fm (bytes := 1) ah aj bj rfl g20) ?_;rintro _ _ ⟨t21, rfl, rfl⟩;refine zS rfl (aR aj rfl) <| zm rfl <| ag <| aW <| cf (X := Nat × Int × Int) (fun (n25, y22, y23) => ⟨[(5, S a1), (6, i64 y22), (47, slE Enc.byte y18 (some t21)), (48, i64 (y18.length : Int)), (49, i64 y23)], [], [.tok t21 5]⟩) (fun (n25, y22, y23) => dq a1 y18 n25 (y22, y23) = some (r2, r3)) (fun (n25, y22, y23) => n25) (F, 0, 0) H (aX [0] (.cons (.refl _) (.cons (.refl _) (.cons (.refl _) (.cons (.refl _) (.cons (.refl _) (.nil _)))))) rfl) ?_;rintro ⟨n25, y22, y23⟩ H;obtain ⟨n25, rfl, H⟩ := cP H;replace H : dr a1 y18 (dq a1 y18 n25) y22 y23 = some (r2, r3) := H
    unfold dr at H
    refine af <| ab ?_;show AR _ _ _ _ _ [0] _;refine zS rfl (bA rfl rfl) <| ag <| af <| ay rfl (fun c26 => ?_) (fun c26 => ?_)
    ·replace H := aZ c26 H;refine aE <| af <| aW <| af ?_;obtain ⟨g27, H⟩ := aI H;obtain ⟨x28, e29, H⟩ := bp H;refine ab ?_;show AR _ _ _ _ _ [0, 1, 2] _;refine zS rfl (bk (E := Enc.byte) aj (by kernel_rfl) rfl rfl g27 e29) <| zS rfl (aD bj rfl rfl) <| za rfl <| ag <| af <| ab ?_;show AR _ _ _ _ _ [0, 1, 2] _;refine zm rfl <| zS rfl (nD (a := x28) (b := 48) rfl rfl) <| za rfl <| ag <| af <| af <| ab ?_;show AR _ _ _ _ _ [0, 1] _;refine zm rfl <| zS rfl (cO rfl rfl) <| ag <| ay rfl (fun c30 => ?_) (fun c30 => ?_)
     ·replace H := aZ c30 H;refine af <| ab ?_;show AR _ _ _ _ _ [0, 1, 2] _;refine zS rfl (bl (a := .v _) bn rfl rfl) <| za rfl <| zS rfl (aO (av := .ifc _ _) rfl) <| ag <| aL ?_;obtain ⟨rfl, rfl⟩ := fg H;exact And.intro rfl (Exists.intro _ (Exists.intro _ ⟨bi rfl (.refl _) (.refl _), aF [] rfl, rfl, rfl⟩))
     ·replace H := ba c30 H;refine aE ?_;obtain ⟨g31, H⟩ := aI H;obtain ⟨g32, H⟩ := aI H;refine ab ?_;show AR _ _ _ _ _ [0, 1, 2, 3, 4, 5] _;refine zm rfl <| zS rfl (g_mul rfl rfl g31) <| zm rfl <| zS rfl (kH (c := x28 - 48) (by kernel_rfl) az rfl) <| zS rfl (dk rfl rfl g32) <| za rfl <| ag ?_;obtain ⟨g33, H⟩ := aI H;refine ab ?_;show AR _ _ _ _ _ [0, 1] _;refine zS rfl (dk rfl rfl g33) <| zm rfl <| ag ?_;exact Exists.intro (n25, (y22 * 10) + ((x28 - 48).toNat : Int), y23 + 1) ⟨H, Nat.lt_succ_self _, aX [0] (.cons (.refl _) (.cons (.refl _) (.cons (.refl _) (.cons (.refl _) (.cons (.refl _) (.nil _)))))) rfl⟩
    ·replace H := ba c26 H;refine cg ?_;exact Exists.intro y22 ⟨H, aX [] (.cons (.refl _) (.cons (.refl _) (.nil _))) rfl⟩
   rintro y34 H;replace H : ef a1 y34 = some (r2, r3) := H
   unfold ef at H
   refine bx (X := Int) (fun y41 => ⟨[(6, i64 y41)], [], []⟩) (fun y41 => eg y41 = some (r2, r3)) ?_ ?_
   ·refine af ?_;obtain ⟨g36, H⟩ := aI H;obtain ⟨x37, e38, H⟩ := bp H;refine ab ?_;show AR _ _ _ _ _ [0, 1, 2] _;refine zm rfl <| zS rfl (aP ah rfl rfl g36 e38) <| zS rfl (dF (a := x37) (b := 45) rfl rfl) <| ag <| ay rfl (fun c39 => ?_) (fun c39 => ?_)
    ·replace H := aZ c39 H;obtain ⟨g40, H⟩ := aI H;refine ab ?_;show AR _ _ _ _ _ [0, 1, 2] _;refine zm rfl <| zS rfl (g_neg rfl g40) <| za rfl <| ag ?_;exact Exists.intro (0 - y34) ⟨H, aX [] (.cons (.refl _) (.nil _)) rfl⟩
    ·replace H := ba c39 H;refine aE ?_;exact Exists.intro y34 ⟨H, aX [] (.cons (.refl _) (.nil _)) rfl⟩
   rintro y41 H;replace H : eg y41 = some (r2, r3) := H
   unfold eg at H
   refine af <| ab ?_;show AR _ _ _ _ _ [0, 1, 2] _;refine zm rfl <| za rfl <| za rfl <| ag <| aL ?_;obtain ⟨rfl, rfl⟩ := fg H;exact And.intro rfl (Exists.intro _ (Exists.intro _ ⟨bi rfl (.refl _) (.refl _), aF [] rfl, rfl, rfl⟩))
  ·replace H := ba c5 H;refine aE ?_;exact Exists.intro () ⟨H, aX [] (.cons (.refl _) (.nil _)) rfl⟩
 rintro _ H;replace H : fp F a1 = some (r2, r3) := H
 unfold fp at H
 refine af ?_;obtain ⟨x44, x45, e46, H⟩ := fH H;refine ab ?_;show AR _ _ _ _ _ [0, 1, 2, 3, 4, 5, 6] _;refine zm rfl <| bc rfl rfl (aQ rfl en72_num rfl (lr F a1 10 0 x44 x45 e46) ?_);refine zS rfl (au (av := .tup _) rfl) <| zS rfl (aN (av := .v _) rfl rfl) <| zS rfl (aN (av := eK _ _ _) rfl rfl) <| za rfl <| zS rfl (aO (av := eK _ _ _) rfl) <| ag <| af <| ab ?_;show AR _ _ _ _ _ [0, 1, 2, 3] _;refine zm rfl <| zS rfl (au (av := eK _ _ _) rfl) <| za rfl <| zS rfl (aO (av := eK _ _ _) rfl) <| ag <| aL ?_;obtain ⟨rfl, rfl⟩ := fg H;exact And.intro rfl (Exists.intro _ (Exists.intro _ ⟨bi rfl (.refl _) (.refl _), aF [] rfl, rfl, rfl⟩))
set_option maxRecDepth 100000 in
set_option maxHeartbeats 1000000 in
theorem ln (F : Nat) (a1 : List UInt8) (r2 : Int) (r3 : Int) (H : cx F a1 = some (r2, r3)) : ACalls Tryd.prog 47 [S a1] [] (Ret (.tup [i64 r2, eAny 111 r3]) []) := by
 unfold cx at H
 refine aA Tryd.func47 rfl rfl ?_;show AW _ _ 18 _ _ _;refine af <| ab ?_;show AR _ _ _ _ _ [0, 1] _;refine za rfl <| za rfl <| ag <| af ?_;obtain ⟨x4, x5, e6, H⟩ := fH H;refine ab ?_;show AR _ _ _ _ _ [0, 1, 2, 3, 4, 5, 6] _;refine zm rfl <| bc rfl rfl (aQ rfl en58_num rfl (pM F a1 x4 x5 e6) ?_);refine zS rfl (au (av := .tup _) rfl) <| zS rfl (aN (av := .v _) rfl rfl) <| zS rfl (aN (av := eK _ _ _) rfl rfl) <| za rfl <| zS rfl (aO (av := eK _ _ _) rfl) <| ag <| af <| af <| ab ?_;show AR _ _ _ _ _ [0, 1] _;refine zS rfl (au (av := eK _ _ _) rfl) <| zS rfl (jy cS rfl rfl) <| ag <| ay rfl (fun c7 => ?_) (fun c7 => ?_)
 ·replace H := aZ c7 H;refine af ?_;obtain ⟨g8, H⟩ := aI H;obtain ⟨g9, H⟩ := aI H;refine ab ?_;show AR _ _ _ _ _ [0, 1, 2, 3, 4, 5] _;refine zm rfl <| zm rfl <| zS rfl (au (av := eK _ _ _) rfl) <| bc rfl rfl (aQ rfl en59_num rfl (nX _ _ _ _ x5 (fi g8) (of_decide_eq_true g9)) ?_);refine za rfl <| zS rfl (aO (av := .ifc _ _) rfl) <| ag <| aL ?_;obtain ⟨rfl, rfl⟩ := fg H;exact And.intro rfl (Exists.intro _ (Exists.intro _ ⟨bi rfl (.refl _) (.ifc _ _), aF [] rfl, rfl, rfl⟩))
 ·replace H := ba c7 H;refine aE <| af <| ab ?_;show AR _ _ _ _ _ [0, 1, 2] _;refine zm rfl <| za rfl <| za rfl <| ag <| aL ?_;obtain ⟨rfl, rfl⟩ := fg H;exact And.intro rfl (Exists.intro _ (Exists.intro _ ⟨bi rfl (.refl _) (.refl _), aF [] rfl, rfl, rfl⟩))
end Go.Proofs.YtimpbfniegimaaaDoor
namespace Go.Pv
def gZ (F : Nat) (a1 : Int) : Option Bool :=
bif (decide (0 ≤ a1)) && (decide (a1 < 55296)) then
  some true
else
  bif (decide (57343 < a1)) && (decide (a1 ≤ 1114111)) then
    some true
  else
    some false
def ik : Option Int :=
some (-1)
def eN (a1 : List UInt8) (rec11 : Nat → Option Int) (y10 : Nat) : Option Int :=
bif decide (y10 < a1.length) then
  grd (!(decide (((jf a1 y10).1 : Int) = 65533))) <|
  rec11 (y10 + (jf a1 y10).2)
else
  ik
def gq (a1 : List UInt8) (n : Nat) : Nat → Option Int :=
  loop (fun rec x => eN a1 rec x) n
def gp : Option Int :=
some (-1)
def gr (a1 : List UInt8) (x20 : List UInt8) (rec23 : Unit → Option Int) : Option Int :=
bif decide ((x20.length : Int) - 1 < (a1.length : Int)) then
  grd (bQ ((x20.length : Int) - 1) a1.length) <|
  lt (at_ a1 ((x20.length : Int) - 1)) fun x27 =>
  grd (bQ ((x20.length : Int) - 1) x20.length) <|
  lt (at_ x20 ((x20.length : Int) - 1)) fun x30 =>
  grd (!decide (x27 = x30)) <|
  grd (okI (((x20.length : Int) - 1) + 1)) <|
  grd (gI (((x20.length : Int) - 1) + 1) a1.length) <|
  lt (dg a1 (((x20.length : Int) - 1) + 1)) fun x35 =>
  grd (bQ ((x20.length : Int) - 1) x20.length) <|
  lt (at_ x20 ((x20.length : Int) - 1)) fun x38 =>
  lt (Go.Lib.indexByte x35 x38) fun x40 =>
  grd (decide (x40 < 0)) <|
  some (-1)
else
  gp
def il (a1 : List UInt8) (x20 : List UInt8) (n : Nat) : Unit → Option Int :=
  loop (fun rec x => gr a1 x20 rec) n
def gK (F : Nat) (a1 : List UInt8) (a2 : Int) : Option Int :=
bif (decide (0 ≤ a2)) && (decide (a2 < 128)) then
  lt (Go.Lib.indexByte a1 (Go.Av.toB a2)) fun x6 =>
  some x6
else
  bif decide (a2 = 65533) then
    gq a1 F 0
  else
    bnd (gZ F a2) fun x17 =>
    bif !x17 then
      some (-1)
    else
      lt (dR a2) fun x20 =>
      grd (okI ((x20.length : Int) - 1)) <|
      il a1 x20 F ()
def nz (F : Nat) (a1 : Int) : Option Bool :=
some (decide (8 < a1))
def gw (F : Nat) (a1 : List UInt8) (y11 : Int) : Option Int :=
bnd (gK F a1 y11) fun x13 =>
some x13
def gu : Option Int :=
some (-1)
def gy (F : Nat) (a1 : List UInt8) (a2 : List UInt8) (rec22 : Nat → Option Int) (y21 : Nat) : Option Int :=
bif decide (y21 < a1.length) then
  bnd (gK F a2 ((jf a1 y21).1 : Int)) fun x25 =>
  bif decide (0 ≤ x25) then
    some (y21 : Int)
  else
    rec22 (y21 + (jf a1 y21).2)
else
  gu
def gx (F : Nat) (a1 : List UInt8) (a2 : List UInt8) (n : Nat) : Nat → Option Int :=
  loop (fun rec x => gy F a1 a2 rec x) n
def gt (F : Nat) (a1 : List UInt8) (a2 : List UInt8) : Option Int :=
gx F a1 a2 F 0
def lj (F : Nat) (a1 : List UInt8) (a2 : List UInt8) : Option Int :=
bif decide (a2 = ([] : List UInt8)) then
  some (-1)
else
  bif decide ((a2.length : Int) = 1) then
    grd (bQ 0 a2.length) <|
    lt (at_ a2 0) fun x7 =>
    grd (okJ (x7.toNat : Int)) <|
    bif decide (128 ≤ (x7.toNat : Int)) then
      gw F a1 65533
    else
      gw F a1 (x7.toNat : Int)
  else
    bnd (nz F (a1.length : Int)) fun x15 =>
    grd (!x15) <|
    gt F a1 a2
def lN (F : Nat) (s chars : List UInt8) : Option Int := bif decide (8 < s.length) && decide (2 ≤ chars.length) then some (Go.Lib.indexAny s chars) else lj F s chars
def fE (F : Nat) (a1 : List UInt8) (a2 : List UInt8) : Option Bool :=
grd (nF a2) <|
grd (okS a1.length) <|
grd (okS a2.length) <|
bnd (lN F a1 a2) fun x7 =>
some (decide (0 ≤ x7))
end Go.Pv
namespace Go.Proofs.YtimpbfniegimaaaDoor
open Go.RowKit Go.Av Go.Pv
theorem en42_any : ∀ (args : Array Value) (w : World), (callFunc 42 args).run Tryd.prog w = .ok (.enter 42 args) w := fun _ _ => by kernel_rfl
theorem oP : ∀ (args : Array Value) (w : World), (callFunc 51 args).run Tryd.prog w = .ok (.enter 51 args) w := fun _ _ => by kernel_rfl
theorem en52_any : ∀ (args : Array Value) (w : World), (callFunc 52 args).run Tryd.prog w = .ok (.enter 52 args) w := fun _ _ => by kernel_rfl
theorem oO : ∀ (args : Array Value) (w : World), (callFunc 64 args).run Tryd.prog w = .ok (.enter 64 args) w := fun _ _ => by kernel_rfl
theorem en65_any : ∀ (args : Array Value) (w : World), (callFunc 65 args).run Tryd.prog w = .ok (.enter 65 args) w := fun _ _ => by kernel_rfl
set_option maxRecDepth 100000 in
set_option maxHeartbeats 1000000 in
theorem nM (F : Nat) (a1 : Int) (r2 : Bool) (H : gZ F a1 = some r2) : ACalls Tryd.prog 65 [.v (.int .i32 a1)] [] (Ret (B r2) []) := by
 unfold gZ at H
 refine aA Tryd.func65 rfl rfl ?_;show AW _ _ 17 _ _ _;refine af <| ab ?_;show AR _ _ _ _ _ [0] _;refine za rfl <| ag <| af <| aW <| af <| ab ?_;show AR _ _ _ _ _ [0, 1, 2, 3, 4, 5, 6] _;refine zm rfl <| zS rfl (dT rfl rfl) <| zm rfl <| aG (l := [6]) 9 (B ((decide (0 ≤ a1)) && (decide (a1 < 55296)))) (fun K => ?_) ?_
 ·rcases ac (decide (0 ≤ a1)) with h3 | h3
  ·refine zM h3 rfl <| zU h3 rfl (bA rfl rfl) <| zS rfl (aq (av := .v _) rfl h3 rfl) ?_;exact K _ 2 _ (an (bJ h3)) rfl rfl
  ·refine zF h3 rfl <| zF h3 rfl <| zS rfl (ap (av := .v _) rfl h3 rfl) ?_;exact K _ 2 _ (an (bK h3)) rfl rfl
 refine za rfl <| ag <| ay rfl (fun c4 => ?_) (fun c4 => ?_)
 ·replace H := aZ c4 H;refine af <| ab ?_;show AR _ _ _ _ _ [0] _;refine za rfl <| ag <| aL ?_;obtain rfl := ak H;exact And.intro rfl (Exists.intro _ (Exists.intro _ ⟨aK rfl (.refl _), aF [] rfl, rfl, rfl⟩))
 ·replace H := ba c4 H;refine af <| ab ?_;show AR _ _ _ _ _ [0, 1, 2, 3, 4, 5, 6] _;refine zm rfl <| zS rfl (bA rfl rfl) <| zm rfl <| aG (l := [6]) 16 (B ((decide (57343 < a1)) && (decide (a1 ≤ 1114111)))) (fun K => ?_) ?_
  ·rcases ac (decide (57343 < a1)) with h5 | h5
   ·refine zM h5 rfl <| zU h5 rfl (dT rfl rfl) <| zS rfl (aq (av := .v _) rfl h5 rfl) ?_;exact K _ 2 _ (an (bJ h5)) rfl rfl
   ·refine zF h5 rfl <| zF h5 rfl <| zS rfl (ap (av := .v _) rfl h5 rfl) ?_;exact K _ 2 _ (an (bK h5)) rfl rfl
  refine za rfl <| ag <| ay rfl (fun c6 => ?_) (fun c6 => ?_)
  ·replace H := aZ c6 H;refine af <| ab ?_;show AR _ _ _ _ _ [0] _;refine za rfl <| ag <| aL ?_;obtain rfl := ak H;exact And.intro rfl (Exists.intro _ (Exists.intro _ ⟨aK rfl (.refl _), aF [] rfl, rfl, rfl⟩))
  ·replace H := ba c6 H;refine aE <| af <| ab ?_;show AR _ _ _ _ _ [0] _;refine za rfl <| ag <| aL ?_;obtain rfl := ak H;exact And.intro rfl (Exists.intro _ (Exists.intro _ ⟨aK rfl (.refl _), aF [] rfl, rfl, rfl⟩))
set_option maxRecDepth 100000 in
set_option maxHeartbeats 1000000 in
theorem mu (F : Nat) (a1 : List UInt8) (a2 : Int) (r3 : Int) (H : gK F a1 a2 = some r3) : ACalls Tryd.prog 51 [S a1, .v (.int .i32 a2)] [] (Ret (i64 r3) []) := by
 unfold gK at H
 refine aA Tryd.func51 rfl rfl ?_;show AW _ _ 187 _ _ _;refine af <| ab ?_;show AR _ _ _ _ _ [0] _;refine za rfl <| ag <| aW <| af <| ab ?_;show AR _ _ _ _ _ [0, 1, 2, 3, 4, 5, 6] _;refine zm rfl <| zS rfl (dT rfl rfl) <| zm rfl <| aG (l := [6]) 166 (B ((decide (0 ≤ a2)) && (decide (a2 < 128)))) (fun K => ?_) ?_
 ·rcases ac (decide (0 ≤ a2)) with h4 | h4
  ·refine zM h4 rfl <| zU h4 rfl (bA rfl rfl) <| zS rfl (aq (av := .v _) rfl h4 rfl) ?_;exact K _ 2 _ (an (bJ h4)) rfl rfl
  ·refine zF h4 rfl <| zF h4 rfl <| zS rfl (ap (av := .v _) rfl h4 rfl) ?_;exact K _ 2 _ (an (bK h4)) rfl rfl
 refine za rfl <| ag <| ay rfl (fun c5 => ?_) (fun c5 => ?_)
 ·replace H := aZ c5 H;refine af ?_;obtain ⟨x6, e7, H⟩ := bp H;refine ab ?_;show AR _ _ _ _ _ [0, 1, 2, 3, 4] _;refine zm rfl <| zm rfl <| zS rfl (lG (by kernel_rfl) bj rfl) <| bc rfl rfl (aQ rfl oO rfl (show ACalls _ _ _ [] (Ret (i64 x6) []) from by subst e7; exact jn a1 (Go.Av.toB a2)) ?_);refine za rfl <| ag <| aL ?_;obtain rfl := ak H;exact And.intro rfl (Exists.intro _ (Exists.intro _ ⟨aK rfl (.refl _), aF [] rfl, rfl, rfl⟩))
 ·replace H := ba c5 H;refine af <| ab ?_;show AR _ _ _ _ _ [0, 1, 2] _;refine zm rfl <| zS rfl (bw rfl rfl) <| za rfl <| ag <| ay rfl (fun c8 => ?_) (fun c8 => ?_)
  ·replace H := aZ c8 H;refine bx (X := Unit) (fun _ => ⟨[], [], []⟩) (fun _ => ik = some r3) ?_ ?_
   ·refine af <| ab ?_;show AR _ _ _ _ _ [0, 1] _;refine zm rfl <| zX rfl (jm ah rfl) ?_;rintro _ _ ⟨o9, rfl, rfl⟩;refine ag <| aW <| cf (X := Nat × Nat) (fun (n12, y10) => ⟨[(175, .pt o9 0)], [], [.iter o9 a1 y10]⟩) (fun (n12, y10) => gq a1 n12 y10 = some r3) (fun (n12, y10) => n12) (F, 0) H (aX [0] (.cons (.refl _) (.nil _)) rfl) ?_;rintro ⟨n12, y10⟩ H;obtain ⟨n12, rfl, H⟩ := cP H;replace H : eN a1 (gq a1 n12) y10 = some r3 := H
    unfold eN at H
    refine af ?_
    rcases ac (decide (y10 < a1.length)) with c13 | c13
    ·replace H := aZ c13 H;refine ab ?_;show AR _ _ _ _ _ [0, 1] _;refine zR rfl (oK (i := 0) rfl rfl c13) <| zS rfl (aN (av := .v _) rfl rfl) <| ag <| af <| ay rfl (fun _ => ?_) (fun hx => dH rfl hx);refine aE <| aW <| af <| ab ?_;show AR _ _ _ _ _ [0, 1, 2, 3] _;refine zS rfl (aN (av := .v _) rfl rfl) <| zS rfl (aN (av := .v _) rfl rfl) <| za rfl <| za rfl <| ag <| af <| ab ?_;show AR _ _ _ _ _ [0, 1] _;refine zm rfl <| zS rfl (bw rfl rfl) <| ag ?_;obtain ⟨g15, H⟩ := aI H;replace g15 := fn g15;refine ay rfl (fun hx => dH hx g15) (fun _ => ?_);refine aE ?_;exact Exists.intro (n12, y10 + (jf a1 y10).2) ⟨H, Nat.lt_succ_self _, aX [0] (.cons (.refl _) (.nil _)) rfl⟩
    ·replace H := ba c13 H;refine ab ?_;show AR _ _ _ _ _ [0, 1] _;refine zR rfl (oL (i := 0) rfl rfl c13) <| zS rfl (aN (av := .v _) rfl rfl) <| ag <| af <| ay rfl (fun hx => dH hx rfl) (fun _ => ?_);refine cg ?_;exact Exists.intro () ⟨H, aX [] (.nil _) rfl⟩
   rintro _ H;replace H : ik = some r3 := H
   unfold ik at H
   refine af <| ab ?_;show AR _ _ _ _ _ [0] _;refine za rfl <| ag <| aL ?_;obtain rfl := ak H;exact And.intro rfl (Exists.intro _ (Exists.intro _ ⟨aK rfl (.refl _), aF [] rfl, rfl, rfl⟩))
  ·replace H := ba c8 H;refine af ?_;obtain ⟨x17, e18, H⟩ := cK H;refine ab ?_;show AR _ _ _ _ _ [0, 1, 2, 3] _;refine zm rfl <| bc rfl rfl (aQ rfl en65_any rfl (nM F a2 x17 e18) ?_);refine zS rfl (dS rfl) <| za rfl <| ag <| ay rfl (fun c19 => ?_) (fun c19 => ?_)
   ·replace H := aZ c19 H;refine af <| ab ?_;show AR _ _ _ _ _ [0] _;refine za rfl <| ag <| aL ?_;obtain rfl := ak H;exact And.intro rfl (Exists.intro _ (Exists.intro _ ⟨aK rfl (.refl _), aF [] rfl, rfl, rfl⟩))
   ·replace H := ba c19 H;refine AW.scope <| af ?_;obtain ⟨x20, e21, H⟩ := bp H;refine ab ?_;show AR _ _ _ _ _ [0, 1, 2] _;refine zm rfl <| zS rfl (pj Tryd.underlying21 ah rfl e21) <| za rfl <| ag <| af ?_;obtain ⟨g22, H⟩ := aI H;refine ab ?_;show AR _ _ _ _ _ [0, 1, 2, 3] _;refine zm rfl <| zS rfl (be ah rfl) <| zS rfl (jd rfl rfl g22) <| za rfl <| ag <| af <| ab ?_;show AR _ _ _ _ _ [0, 1] _;refine zm rfl <| za rfl <| ag <| af <| ab ?_;show AR _ _ _ _ _ [0] _;refine za rfl <| ag <| bx (X := Unit) (fun _ => ⟨[], [], []⟩) (fun _ => gp = some r3) ?_ ?_
    ·refine aW <| cf (X := Nat) (fun n24 => ⟨[(0, S a1), (7, S x20), (8, i64 ((x20.length : Int) - 1)), (9, i64 ((x20.length : Int) - 1)), (10, i64 0)], [], []⟩) (fun n24 => il a1 x20 n24 () = some r3) (fun n24 => n24) F H (aX [] (.cons (.refl _) (.cons (.refl _) (.cons (.refl _) (.cons (.refl _) (.cons (.refl _) (.nil _)))))) rfl) ?_;rintro n24 H;obtain ⟨n24, rfl, H⟩ := cP H;replace H : gr a1 x20 (il a1 x20 n24) = some r3 := H
     unfold gr at H
     refine af <| af <| ab ?_;show AR _ _ _ _ _ [0, 1, 2, 3] _;refine zm rfl <| zm rfl <| zS rfl (be ah rfl) <| zS rfl (bA rfl rfl) <| ag <| ay rfl (fun c25 => ?_) (fun c25 => ?_)
     ·replace H := aZ c25 H;refine aE <| aW <| AW.scope <| af <| af ?_;obtain ⟨g26, H⟩ := aI H;obtain ⟨x27, e28, H⟩ := bp H;obtain ⟨g29, H⟩ := aI H;obtain ⟨x30, e31, H⟩ := bp H;refine bL (by kernel_rfl) ?_;show AI _ _ _ _ _ 7 (Array.replicate 7 false) _;refine zk 0 rfl (mv rfl) ?_;show AI _ _ _ _ _ _ #[true, false, false, false, false, false, false] _;refine zk 1 rfl (mv rfl) ?_;show AI _ _ _ _ _ _ #[true, true, false, false, false, false, false] _;refine zk 2 rfl (aP ah rfl rfl g26 e28) ?_;show AI _ _ _ _ _ _ #[true, true, true, false, false, false, false] _;refine zk 3 rfl (mv rfl) ?_;show AI _ _ _ _ _ _ #[true, true, true, true, false, false, false] _;refine zk 4 rfl (mv rfl) ?_;show AI _ _ _ _ _ _ #[true, true, true, true, true, false, false] _;refine zk 5 rfl (aP ah rfl rfl g29 e31) ?_;show AI _ _ _ _ _ _ #[true, true, true, true, true, true, false] _;refine zk 6 rfl (g_ne8 (a := x27) (b := x30) rfl rfl) ?_;show AI _ _ _ _ _ _ #[true, true, true, true, true, true, true] _;refine bB rfl ?_;obtain ⟨g44, H⟩ := aI H;refine ay rfl (fun _ => ?_) (fun hx => dH g44 hx);refine af ?_;obtain ⟨g33, H⟩ := aI H;obtain ⟨g34, H⟩ := aI H;obtain ⟨x35, e36, H⟩ := bp H;obtain ⟨g37, H⟩ := aI H;obtain ⟨x38, e39, H⟩ := bp H;obtain ⟨x40, e41, H⟩ := bp H;refine bL (by kernel_rfl) ?_;show AI _ _ _ _ _ 9 (Array.replicate 9 false) _;refine zk 0 rfl (mv rfl) ?_;show AI _ _ _ _ _ _ #[true, false, false, false, false, false, false, false, false] _
      refine zk 1 rfl (mv rfl) ?_;show AI _ _ _ _ _ _ #[true, true, false, false, false, false, false, false, false] _;refine zk 2 rfl (dk rfl rfl g33) ?_;show AI _ _ _ _ _ _ #[true, true, true, false, false, false, false, false, false] _;refine zk 3 rfl (du ah rfl rfl g34 e36) ?_;show AI _ _ _ _ _ _ #[true, true, true, true, false, false, false, false, false] _;refine zk 4 rfl (mv rfl) ?_;show AI _ _ _ _ _ _ #[true, true, true, true, true, false, false, false, false] _;refine zk 5 rfl (mv rfl) ?_;show AI _ _ _ _ _ _ #[true, true, true, true, true, true, false, false, false] _;refine zk 6 rfl (aP ah rfl rfl g37 e39) ?_;show AI _ _ _ _ _ _ #[true, true, true, true, true, true, true, false, false] _;refine aY (i := 7) (by kernel_rfl) rfl rfl <| cw rfl oO rfl (show ACalls _ _ _ [] (Ret (i64 x40) []) from by subst e41; exact jn x35 x38) ?_;show AI _ _ _ _ _ _ #[true, true, true, true, true, true, true, true, false] _;refine zk 8 rfl (asg rfl) ?_;show AI _ _ _ _ _ _ #[true, true, true, true, true, true, true, true, true] _;refine bB rfl <| af <| af <| ab ?_;show AR _ _ _ _ _ [0, 1] _;refine zm rfl <| zS rfl (bA rfl rfl) <| ag ?_;obtain ⟨g43, H⟩ := aI H;refine ay rfl (fun _ => ?_) (fun hx => dH g43 hx);refine af <| ab ?_;show AR _ _ _ _ _ [0] _;refine za rfl <| ag <| aL ?_;obtain rfl := ak H;exact And.intro rfl (Exists.intro _ (Exists.intro _ ⟨aK rfl (.refl _), aF [] rfl, rfl, rfl⟩))
     ·replace H := ba c25 H;refine cg ?_;exact Exists.intro () ⟨H, aX [] (.nil _) rfl⟩
    rintro _ H;replace H : gp = some r3 := H
    unfold gp at H
    refine af <| af <| ab ?_;show AR _ _ _ _ _ [0] _;refine za rfl <| ag <| aL ?_;obtain rfl := ak H;exact And.intro rfl (Exists.intro _ (Exists.intro _ ⟨aK rfl (.refl _), aF [] rfl, rfl, rfl⟩))
set_option maxRecDepth 100000 in
set_option maxHeartbeats 1000000 in
theorem w_useSet (F : Nat) (a1 : Int) (r2 : Bool) (H : nz F a1 = some r2) : ACalls Tryd.prog 52 [i64 a1] [] (Ret (B r2) []) := by
 unfold nz at H
 refine aA Tryd.func52 rfl rfl ?_;show AW _ _ 5 _ _ _;refine af <| ab ?_;show AR _ _ _ _ _ [0] _;refine za rfl <| ag <| af <| ab ?_;show AR _ _ _ _ _ [0, 1, 2] _;refine zm rfl <| zS rfl (cO rfl rfl) <| za rfl <| ag <| aL ?_;obtain rfl := ak H;exact And.intro rfl (Exists.intro _ (Exists.intro _ ⟨aK rfl (.refl _), aF [] rfl, rfl, rfl⟩))
set_option maxRecDepth 100000 in
set_option maxHeartbeats 1000000 in
theorem pO (F : Nat) (a1 : List UInt8) (a2 : List UInt8) (r3 : Int) (H : lj F a1 a2 = some r3) : ACalls Tryd.prog 42 [S a1, S a2] [] (Ret (i64 r3) []) := by
 unfold lj at H
 refine aA Tryd.func42 rfl rfl ?_;show AW _ _ 55 _ _ _;refine af <| ab ?_;show AR _ _ _ _ _ [0] _;refine za rfl <| ag <| af <| af <| ab ?_;show AR _ _ _ _ _ [0, 1] _;refine zm rfl <| zS rfl (kj rfl rfl) <| ag <| ay rfl (fun c4 => ?_) (fun c4 => ?_)
 ·replace H := aZ c4 H;refine af <| ab ?_;show AR _ _ _ _ _ [0] _;refine za rfl <| ag <| aL ?_;obtain rfl := ak H;exact And.intro rfl (Exists.intro _ (Exists.intro _ ⟨aK rfl (.refl _), aF [] rfl, rfl, rfl⟩))
 ·replace H := ba c4 H;refine aE <| af <| af <| ab ?_;show AR _ _ _ _ _ [0, 1, 2] _;refine zm rfl <| zS rfl (be ah rfl) <| zS rfl (bw rfl rfl) <| ag <| ay rfl (fun c5 => ?_) (fun c5 => ?_)
  ·replace H := aZ c5 H;refine af ?_;obtain ⟨g6, H⟩ := aI H;obtain ⟨x7, e8, H⟩ := bp H;obtain ⟨g9, H⟩ := aI H;refine ab ?_;show AR _ _ _ _ _ [0, 1, 2, 3] _;refine zm rfl <| zS rfl (aP ah rfl rfl g6 e8) <| zS rfl (qh (by kernel_rfl) Tryd.underlying21 rfl g9) <| za rfl <| ag <| bx (X := Int) (fun y11 => ⟨[(0, S a1), (5, .v (.int .i32 y11))], [], []⟩) (fun y11 => gw F a1 y11 = some r3) ?_ ?_
   ·refine af <| ab ?_;show AR _ _ _ _ _ [0, 1] _;refine zm rfl <| zS rfl (fF rfl rfl) <| ag <| ay rfl (fun c10 => ?_) (fun c10 => ?_)
    ·replace H := aZ c10 H;refine ab ?_;show AR _ _ _ _ _ [0] _;refine za rfl <| ag ?_;exact Exists.intro 65533 ⟨H, aX [] (.cons (.refl _) (.cons (.refl _) (.nil _))) rfl⟩
    ·replace H := ba c10 H;refine aE ?_;exact Exists.intro (x7.toNat : Int) ⟨H, aX [] (.cons (.refl _) (.cons (.refl _) (.nil _))) rfl⟩
   rintro y11 H;replace H : gw F a1 y11 = some r3 := H
   unfold gw at H
   refine af ?_;obtain ⟨x13, e14, H⟩ := cK H;refine ab ?_;show AR _ _ _ _ _ [0, 1, 2, 3] _;refine zm rfl <| zm rfl <| bc rfl rfl (aQ rfl oP rfl (mu F a1 y11 x13 e14) ?_);refine za rfl <| ag <| aL ?_;obtain rfl := ak H;exact And.intro rfl (Exists.intro _ (Exists.intro _ ⟨aK rfl (.refl _), aF [] rfl, rfl, rfl⟩))
  ·replace H := ba c5 H;refine aE <| bx (X := Unit) (fun _ => ⟨[(0, S a1), (1, S a2)], [], []⟩) (fun _ => gt F a1 a2 = some r3) ?_ ?_
   ·refine af ?_;obtain ⟨x15, e16, H⟩ := cK H;refine ab ?_;show AR _ _ _ _ _ [0, 1, 2] _;refine zm rfl <| zS rfl (be ah rfl) <| bc rfl rfl (aQ rfl en52_any rfl (w_useSet F (a1.length : Int) x15 e16) ?_);refine ag ?_;obtain ⟨g18, H⟩ := aI H;replace g18 := fn g18;refine ay rfl (fun hx => dH hx g18) (fun _ => ?_);refine aE ?_;exact Exists.intro () ⟨H, aX [] (.cons (.refl _) (.cons (.refl _) (.nil _))) rfl⟩
   rintro _ H;replace H : gt F a1 a2 = some r3 := H
   unfold gt at H
   refine bx (X := Unit) (fun _ => ⟨[], [], []⟩) (fun _ => gu = some r3) ?_ ?_
   ·refine af <| ab ?_;show AR _ _ _ _ _ [0, 1] _;refine zm rfl <| zX rfl (jm ah rfl) ?_;rintro _ _ ⟨o20, rfl, rfl⟩;refine ag <| aW <| cf (X := Nat × Nat) (fun (n23, y21) => ⟨[(1, S a2), (45, .pt o20 0)], [], [.iter o20 a1 y21]⟩) (fun (n23, y21) => gx F a1 a2 n23 y21 = some r3) (fun (n23, y21) => n23) (F, 0) H (aX [0] (.cons (.refl _) (.cons (.refl _) (.nil _))) rfl) ?_;rintro ⟨n23, y21⟩ H;obtain ⟨n23, rfl, H⟩ := cP H;replace H : gy F a1 a2 (gx F a1 a2 n23) y21 = some r3 := H
    unfold gy at H
    refine af ?_
    rcases ac (decide (y21 < a1.length)) with c24 | c24
    ·replace H := aZ c24 H;refine ab ?_;show AR _ _ _ _ _ [0, 1] _;refine zR rfl (oK (i := 0) rfl rfl c24) <| zS rfl (aN (av := .v _) rfl rfl) <| ag <| af <| ay rfl (fun _ => ?_) (fun hx => dH rfl hx);refine aE <| aW <| af <| ab ?_;show AR _ _ _ _ _ [0, 1, 2, 3] _;refine zS rfl (aN (av := .v _) rfl rfl) <| zS rfl (aN (av := .v _) rfl rfl) <| za rfl <| za rfl <| ag <| af ?_;obtain ⟨x25, e26, H⟩ := cK H;refine ab ?_;show AR _ _ _ _ _ [0, 1, 2, 3] _;refine zm rfl <| zm rfl <| bc rfl rfl (aQ rfl oP rfl (mu F a2 ((jf a1 y21).1 : Int) x25 e26) ?_);refine zS rfl (fF rfl rfl) <| ag <| ay rfl (fun c27 => ?_) (fun c27 => ?_)
     ·replace H := aZ c27 H;refine af <| ab ?_;show AR _ _ _ _ _ [0, 1] _;refine zm rfl <| za rfl <| ag <| aL ?_;obtain rfl := ak H;exact And.intro rfl (Exists.intro _ (Exists.intro _ ⟨aK rfl (.refl _), aF [] rfl, rfl, rfl⟩))
     ·replace H := ba c27 H;refine aE ?_;exact Exists.intro (n23, y21 + (jf a1 y21).2) ⟨H, Nat.lt_succ_self _, aX [0] (.cons (.refl _) (.cons (.refl _) (.nil _))) rfl⟩
    ·replace H := ba c24 H;refine ab ?_;show AR _ _ _ _ _ [0, 1] _;refine zR rfl (oL (i := 0) rfl rfl c24) <| zS rfl (aN (av := .v _) rfl rfl) <| ag <| af <| ay rfl (fun hx => dH hx rfl) (fun _ => ?_);refine cg ?_;exact Exists.intro () ⟨H, aX [] (.nil _) rfl⟩
   rintro _ H;replace H : gu = some r3 := H
   unfold gu at H
   refine af <| ab ?_;show AR _ _ _ _ _ [0] _;refine za rfl <| ag <| aL ?_;obtain rfl := ak H;exact And.intro rfl (Exists.intro _ (Exists.intro _ ⟨aK rfl (.refl _), aF [] rfl, rfl, rfl⟩))
theorem na (F : Nat) (s chars : List UInt8) (x : Int) (h1 : nF chars = true) (h2 : okS s.length = true) (h3 : okS chars.length = true) (H : lN F s chars = some x) : ACalls Tryd.prog 42 [S s, S chars] [] (Ret (i64 x) []) := by
 unfold lN at H
 cases hb : (decide (8 < s.length) && decide (2 ≤ chars.length)) with
 | true =>
  rw [hb] at H
  obtain rfl := ak H
  simp only [Bool.and_eq_true, decide_eq_true_eq] at hb
  refine fM fun I A w vs hI hv => ?_
  obtain ⟨v1, r1, rfl, e1, hv⟩ := hv.out_cons;obtain ⟨v2, r2, rfl, e2, hv⟩ := hv.out_cons
  rw [hv.out_nil, jc e1, jc e2]
  refine (Tryd.strings_IndexAny_long (fun _ => by kernel_rfl) ⟨s.toArray⟩ ⟨chars.toArray⟩ w (by simpa [ByteArray.size] using hb.2) (by simpa [ByteArray.size] using hb.1) (by simpa [ByteArray.size] using fi h2) (by simpa [ByteArray.size] using fi h3) (fun j b hj => asciiB_s h1 j b (by simpa using hj))).mono fun e w' ⟨he, hw⟩ => ⟨by simpa using he, ?_⟩
  subst hw;exact ((Below.refl _ _).alloc (Nat.le_refl _) _).alloc (by simp) _
 | false => rw [hb] at H; exact pO F s chars x H
set_option maxRecDepth 100000 in
set_option maxHeartbeats 1000000 in
theorem ma (F : Nat) (a1 : List UInt8) (a2 : List UInt8) (r3 : Bool) (H : fE F a1 a2 = some r3) : ACalls Tryd.prog 32 [S a1, S a2] [] (Ret (B r3) []) := by
 unfold fE at H
 refine aA Tryd.func32 rfl rfl ?_;show AW _ _ 9 _ _ _;refine af <| ab ?_;show AR _ _ _ _ _ [0] _;refine za rfl <| ag <| af ?_;obtain ⟨g4, H⟩ := aI H;obtain ⟨g5, H⟩ := aI H;obtain ⟨g6, H⟩ := aI H;obtain ⟨x7, e8, H⟩ := cK H;refine ab ?_;show AR _ _ _ _ _ [0, 1, 2, 3, 4] _;refine zm rfl <| zm rfl <| bc rfl rfl (aQ rfl en42_any rfl (na F a1 a2 x7 g4 g5 g6 e8) ?_);refine zS rfl (fF rfl rfl) <| za rfl <| ag <| aL ?_;obtain rfl := ak H;exact And.intro rfl (Exists.intro _ (Exists.intro _ ⟨aK rfl (.refl _), aF [] rfl, rfl, rfl⟩))
end Go.Proofs.YtimpbfniegimaaaDoor
namespace Go.Pv
def dE (F : Nat) (a1 : List UInt8) (a3 : UInt8) : Option Int :=
lt (Go.Lib.indexByte a1 a3) fun x5 =>
some x5
def fq (F : Nat) (a1 : List UInt8) : Option (Int × Bool) :=
kt (cx F a1) fun x4 x5 =>
dK ((decide (x5 = 0)) && (decide ((a1.length : Int) ≤ 3))) (okI x4) <|
lt (Go.Lib.itoa x4) fun x10 =>
some (x4, (((decide (x5 = 0)) && (decide ((a1.length : Int) ≤ 3))) && (decide (x10 = a1))) && (decide (0 ≤ x4)))
def eP (y45 : Int) (y46 : Int) (y47 : Int) : Option (Int × Int × Int) :=
some (y45, y46, y47)
def fB (a1 : Int) (y39 : Int) (y40 : Int) (y41 : Int) : Option (Int × Int × Int) :=
grd (fO a1 100) <|
bif decide (y39 = a1 / 100) then
  eP y39 y40 y41
else
  eP 0 0 0
def dl (F : Nat) (a1 : Int) (x12 : List (List UInt8)) (rec24 : (Int × Int × Int × Int) → Option (Int × Int × Int)) (y20 : Int) (y21 : Int) (y22 : Int) (y23 : Int) : Option (Int × Int × Int) :=
bif decide (y20 < (x12.length : Int)) then
  grd (bQ y20 x12.length) <|
  lt (at_ x12 y20) fun x28 =>
  kt (fq F x28) fun x30 x31 =>
  bif !x31 then
    some (0, 0, 0)
  else
    grd (bQ y20 3) <|
    grd (bQ y20 3) <|
    lt (List.set ([y21, y22, y23] : List Int) (Int.toNat y20) x30) fun x36 =>
    grd (okI (y20 + 1)) <|
    rec24 (y20 + 1, x36.getD 0 0, x36.getD 1 0, x36.getD 2 0)
else
  fB a1 y21 y22 y23
def cB (F : Nat) (a1 : Int) (x12 : List (List UInt8)) (n : Nat) : (Int × Int × Int × Int) → Option (Int × Int × Int) :=
  loop (fun rec x => dl F a1 x12 rec x.1 x.2.1 x.2.2.1 x.2.2.2) n
def gC (F : Nat) (a1 : Int) (a2 : List UInt8) : Option (Int × Int × Int) :=
grd (okS a2.length) <|
lt (Go.Lib.cut a2 ([32] : List UInt8)) fun x8 =>
grd (okS x8.1.length) <|
grd (decide (1 ≤ ([46] : List UInt8).length)) <|
lt (Go.Lib.split x8.1 ([46] : List UInt8)) fun x12 =>
dK (!(!decide ((x12.length : Int) = 3))) (fO a1 100) <|
bif (!decide ((x12.length : Int) = 3)) || (decide (a1 / 100 = 3)) then
  some (0, 0, 0)
else
  cB F a1 x12 F (0, 0, 0, 0)
def gg (F : Nat) (a1 : Int) (a2 : List (List UInt8)) (a3 : Int) (a4 : Int) (a5 : Int) : Option Bool :=
grd (okI ((a2.length : Int) - 1)) <|
grd (bQ ((a2.length : Int) - 1) a2.length) <|
lt (at_ a2 ((a2.length : Int) - 1)) fun x26 =>
lR (gC F a1 x26) fun x28 x29 x30 =>
some ((a3 == x28) && ((a4 == x29) && ((a5 == x30) && true)))
def gi (F : Nat) (a1 : Int) (a2 : List (List UInt8)) (a3 : Int) (a4 : Int) (a5 : Int) (rec12 : Int → Option Bool) (y11 : Int) : Option Bool :=
bif decide (y11 < (a2.length : Int)) then
  grd (bQ y11 a2.length) <|
  lt (at_ a2 y11) fun x16 =>
  jz (!(decide (506 < (x16.length : Int)))) (fE F x16 ([13, 10] : List UInt8)) fun x19 =>
  bif (decide (506 < (x16.length : Int))) || x19 then
    some false
  else
    grd (okI (y11 + 1)) <|
    rec12 (y11 + 1)
else
  gg F a1 a2 a3 a4 a5
def gh (F : Nat) (a1 : Int) (a2 : List (List UInt8)) (a3 : Int) (a4 : Int) (a5 : Int) (n : Nat) : Int → Option Bool :=
  loop (fun rec x => gi F a1 a2 a3 a4 a5 rec x) n
def iw (F : Nat) (a1 : Int) (a2 : List (List UInt8)) (a3 : Int) (a4 : Int) (a5 : Int) : Option Bool :=
bif (((decide (a1 < 200)) || (decide (599 < a1))) || (decide ((a2.length : Int) = 0))) || (decide (100 < (a2.length : Int))) then
  some false
else
  gh F a1 a2 a3 a4 a5 F 0
def fP (y42 : List UInt8) : Option ((List UInt8) × Int) :=
some (y42, 0)
def dm (a1 : Int) (y12 : List UInt8) (y14 : Int) (x19 : List UInt8) (rec15 : ((List UInt8) × Int) → Option ((List UInt8) × Int)) (y23 : List UInt8) : Option ((List UInt8) × Int) :=
grd (okI a1) <|
lt (Go.Lib.itoa a1) fun x26 =>
grd (df (x26.length + y23.length)) <|
lt (x26 ++ y23) fun x29 =>
grd (df (x29.length + x19.length)) <|
lt (x29 ++ x19) fun x32 =>
grd (df (x32.length + ([13, 10] : List UInt8).length)) <|
lt (x32 ++ ([13, 10] : List UInt8)) fun x35 =>
grd (df (y12.length + x35.length)) <|
lt (y12 ++ x35) fun x39 =>
grd (okI (y14 + 1)) <|
rec15 (x39, y14 + 1)
def eX (a1 : Int) (a2 : List (List UInt8)) (rec15 : ((List UInt8) × Int) → Option ((List UInt8) × Int)) (y12 : List UInt8) (y14 : Int) : Option ((List UInt8) × Int) :=
bif decide (y14 < (a2.length : Int)) then
  grd (bQ y14 a2.length) <|
  lt (at_ a2 y14) fun x19 =>
  grd (okI (y14 + 1)) <|
  bif decide (y14 + 1 = (a2.length : Int)) then
    dm a1 y12 y14 x19 rec15 ([32] : List UInt8)
  else
    dm a1 y12 y14 x19 rec15 ([45] : List UInt8)
else
  fP y12
def cT (a1 : Int) (a2 : List (List UInt8)) (n : Nat) : ((List UInt8) × Int) → Option ((List UInt8) × Int) :=
  loop (fun rec x => eX a1 a2 rec x.1 x.2) n
def gR (F : Nat) (a1 : Int) (a2 : List (List UInt8)) (a3 : Int) (a4 : Int) (a5 : Int) : Option ((List UInt8) × Int) :=
bnd (iw F a1 a2 a3 a4 a5) fun x8 =>
bif !x8 then
  some ([], 1)
else
  cT a1 a2 F ([], 0)
def dt (F : Nat) (a1 : Bool) : Option (Res Unit) :=
bif !a1 then
  some (Res.pan 0)
else
  some (Res.ok ())
def dJ {σ : Type} (F : Nat) (k : σ → (List UInt8) → Option (σ × Option Bool)) (rec7 : ((List UInt8) × σ) → Option (σ × Bool × (List UInt8))) (y4 : List UInt8) (y5 : σ) : Option (σ × Bool × (List UInt8)) :=
bnd (dE F y4 10) fun x9 =>
bif decide (x9 < 0) then
  bndk (dt F (decide ((y4.length : Int) < 512))) (fun p14 =>
    some (y5, true, [])) fun x12 =>
  some (y5, false, y4)
else
  jz ((decide (x9 < 512)) && (decide (0 < x9))) (dE F y4 13) fun x17 =>
  dK ((decide (x9 < 512)) && (decide (0 < x9))) (okI (x9 - 1)) <|
  bndk (dt F (((decide (x9 < 512)) && (decide (0 < x9))) && (decide (x17 = x9 - 1)))) (fun p22 =>
    some (y5, true, [])) fun x20 =>
  grd (okI (x9 - 1)) <|
  grd (gI (x9 - 1) y4.length) <|
  lt (to_ y4 (x9 - 1)) fun x25 =>
  bnd (k y5 x25) fun x27 =>
  bndo x27.2 (some (x27.1, true, [])) fun x29 =>
  bif !x29 then
    some (x27.1, false, y4)
  else
    grd (okI (x9 + 1)) <|
    grd (gI (x9 + 1) y4.length) <|
    lt (dg y4 (x9 + 1)) fun x36 =>
    rec7 (x36, x27.1)
def dI {σ : Type} (F : Nat) (k : σ → (List UInt8) → Option (σ × Option Bool)) (n : Nat) : ((List UInt8) × σ) → Option (σ × Bool × (List UInt8)) :=
  loop (fun rec x => dJ F k rec x.1 x.2) n
def ib (F : Nat) {σ : Type} (k : σ → (List UInt8) → Option (σ × Option Bool)) (st0 : σ) (a2 : List UInt8) : Option (σ × Bool × (List UInt8)) :=
dI F k F (a2, st0)
def iP (F : Nat) (a1 : List UInt8) : Option Unit :=
some ()
def jW (F : Nat) (a1 : Int) (a2 : List (List UInt8)) (a3 : Int) (a4 : Int) (a5 : Int) (a6 : Int) (a8 : List (Int × (List (List UInt8)) × Int × Int × Int)) (a11 : Int) : Option ((List (Int × (List (List UInt8)) × Int × Int × Int)) × Int) :=
grd (df (a8.length + ([(a1, a2, (a3, a4, a5))] : List (Int × (List (List UInt8)) × Int × Int × Int)).length)) <|
lt (a8 ++ ([(a1, a2, (a3, a4, a5))] : List (Int × (List (List UInt8)) × Int × Int × Int))) fun x17 =>
some (x17, a6)
def gd (F : Nat) (y16 : Int) (y20 : List (Int × (List (List UInt8)) × Int × Int × Int)) (y22 : Int) (x24 : List UInt8) (x40 : Int) (y58 : List (List UInt8)) : Option ((Int × Int × (List (List UInt8)) × (List (Int × (List (List UInt8)) × Int × Int × Int)) × Int) × (Option Bool)) :=
grd (okI ((x24.length : Int) + 2)) <|
grd (okI (y16 + ((x24.length : Int) + 2))) <|
grd (bQ 3 x24.length) <|
lt (at_ x24 3) fun x64 =>
bif decide (x64 = 32) then
  grd (gI 4 x24.length) <|
  lt (dg x24 4) fun x68 =>
  lR (gC F x40 x68) fun x70 x71 x72 =>
  kt (jW F x40 y58 x70 x71 x72 (y16 + ((x24.length : Int) + 2)) y20 y22) fun x74 x75 =>
  some ((y16 + ((x24.length : Int) + 2), 0, [], x74, x75), some true)
else
  some ((y16 + ((x24.length : Int) + 2), x40, y58, y20, y22), some true)
def eL (F : Nat) (y16 : Int) (y17 : Int) (y18 : List (List UInt8)) (y20 : List (Int × (List (List UInt8)) × Int × Int × Int)) (y22 : Int) (x24 : List UInt8) : Option ((Int × Int × (List (List UInt8)) × (List (Int × (List (List UInt8)) × Int × Int × Int)) × Int) × (Option Bool)) :=
dK (decide (4 ≤ (x24.length : Int))) (bQ 3 x24.length) <|
lt (at_ x24 3) fun x27 =>
dK ((decide (4 ≤ (x24.length : Int))) && (!(decide (x27 = 45)))) (bQ 3 x24.length) <|
lt (at_ x24 3) fun x31 =>
bndk (dt F (((decide (4 ≤ (x24.length : Int))) && ((decide (x27 = 45)) || (decide (x31 = 32)))) && (decide ((y18.length : Int) < 100)))) (fun p36 =>
  some ((y16, y17, y18, y20, y22), none)) fun x34 =>
grd (gI 3 x24.length) <|
lt (to_ x24 3) fun x38 =>
kt (fq F x38) fun x40 x41 =>
bndk (dt F (((x41 && (decide (200 ≤ x40))) && (decide (x40 ≤ 599))) && ((decide ((y18.length : Int) = 0)) || (decide (x40 = y17))))) (fun p49 =>
  some ((y16, y17, y18, y20, y22), none)) fun x47 =>
grd (gI 4 x24.length) <|
lt (dg x24 4) fun x51 =>
grd (df (y18.length + ([x51] : List (List UInt8)).length)) <|
lt (y18 ++ ([x51] : List (List UInt8))) fun x55 =>
gd F y16 y20 y22 x24 x40 x55
def iv (F : Nat) (a1 : List UInt8) (a4 : List (Int × (List (List UInt8)) × Int × Int × Int)) (a7 : Int) : Option ((List (Int × (List (List UInt8)) × Int × Int × Int)) × Int × Bool) :=
bnd (iP F a1) fun _ =>
lR (ib F (fun s x => eL F s.1 s.2.1 s.2.2.1 s.2.2.2.1 s.2.2.2.2 x) (0, 0, [], a4, a7) a1) fun x79 x80 x81 =>
bif x80 then
  some (x79.2.2.2.1, x79.2.2.2.2, true)
else
  some (x79.2.2.2.1, x79.2.2.2.2, false)
def kh (F : Nat) : Option Unit :=
some ()
def ki (F : Nat) (a2 : List UInt8) (a4 : Bool) : Option Bool :=
some a4
def jX (F : Nat) (a2 : List UInt8) (a4 : Bool) : Option Int :=
some (a2.length : Int)
def ge (F : Nat) (a4 : Bool) (y21 : List UInt8) : Option ((List (Int × (List (List UInt8)) × Int × Int × Int)) × (List UInt8) × Bool) :=
lR (iv F y21 [] 0) fun x26 x27 x28 =>
bif x28 then
  some (x26, [], true)
else
grd (gI x27 y21.length) <|
lt (dg y21 x27) fun x35 =>
grd (okS x35.length) <|
some (x26, x35, a4)
def kg (F : Nat) (a2 : List UInt8) (a4 : Bool) (a5 : List UInt8) : Option ((List (Int × (List (List UInt8)) × Int × Int × Int)) × (List UInt8) × Bool) :=
bif a4 then
  some ([], a2, a4)
else
  grd (df (a2.length + a5.length)) <|
  lt (a2 ++ a5) fun x16 =>
  ge F a4 x16
def hC (F : Nat) (a1 : List UInt8) : Option ((List (Int × (List (List UInt8)) × Int × Int × Int)) × Int) :=
bnd (kh F) fun _ =>
lR (kg F [] false a1) fun x8 x9 x10 =>
bnd (ki F x9 x10) fun x13 =>
jz (!x13) (jX F x9 x10) fun x16 =>
bif x13 || (decide (0 < x16)) then
  some ([], 2)
else
  some (x8, 0)
end Go.Pv
