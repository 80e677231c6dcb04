/-
  Function values: made, called; panics; values that are known whole. No program is spoken of.
-/
import Derived.Test.YtjhlnhipjomdeaaGreatDoorAvDefer
set_option linter.unusedVariables false
set_option linter.unusedSimpArgs false
namespace Go.Av
open Go.RowKit

section
variable {P : Program} {ro : Option Nat} {N : Nat} {Q : Post} {ops : Array Oper}

theorem rel_fn {I : Info} {w : World} {f : Fn} {as bs : List AV} {v : Value} (h : Rel I w (.fn f as bs) v) : ∃ xs ys : List Value, v = .func f xs.toArray ys.toArray ∧ RelL I w as xs ∧ RelL I w bs ys := by
  cases h with
  | fn _ _ _ xs ys hl hr hl' hr' => exact ⟨xs, ys, rfl, ⟨hl, hr⟩, ⟨hl', hr'⟩⟩

theorem ofValue_run {P : Program} {ρ : Operand → Value} {f : Fn} {xs ys : Array Value} {x : Operand} {args : Array Operand} {argTypes : Array TypeId} {T : TypeId} {w : World} (h : ρ x = .func f xs ys) :
    (resolve ρ ⟨.value x, args, argTypes⟩ T).run P w = .ok { target := .fn f ys, args := xs ++ args.map ρ } w := by
  simp only [resolve, h, Deferred.ofValue, Sem.run_pure]

/-- A call of a function value. -/
theorem AO.callF {rest : List Nat} {d : Nat} {x : Operand} {f : FuncId} {fs cs : List AV} {args : Array Operand} {argTypes : Array TypeId} {T : TypeId} {pos : String} {after : Array Edge} {g : Option (Nat × Bool)} {e : Env} {ds : List ADef} {A A1 : List Chunk} (B : List Chunk)
    {R : AE → List Chunk → Prop} {avs : List AV} (hd : Nat.blt d N = true) (hx : opv e x = .fn (.func f) fs cs) (hf : ∀ args w, (callFunc f args).run P w = .ok (.enter f args) w) (ha : fs ++ args.toList.map (opv e) ++ cs = avs)
    (h : ACalls P f avs A1 R) (p : A.Perm (A1 ++ B)) (k : ∀ av A', R (.ret av) A' → AR P ro N ops Q rest ⟨(d, av) :: e, ds, A' ++ B⟩)
    (kp : ∀ c A', R (.pan c) A' → Q (.panic c) ⟨e, ds, A' ++ B⟩) :
    AO P ro N ops Q rest ⟨some d, .call ⟨.value x, args, argTypes⟩, T, pos, after, g⟩ ⟨e, ds, A⟩ := fun F I w a hI hS => by
  have hS' := hS
  obtain ⟨xs, ys, hv, hxs, hys⟩ := rel_fn (hx ▸ hS'.op x)
  have hrl : RelL I w avs (xs ++ args.toList.map a.eval ++ ys) := by
    rw [← ha]; exact (hxs.append (RelL.map _ _ _ fun x _ => hS'.op x)).append hys
  refine ⟨fun _ _ => fence_fn _, ?_⟩
  have he : (xs.toArray ++ args.map a.eval) ++ ys.toArray = (xs ++ args.toList.map a.eval ++ ys).toArray := by apply Array.ext'; simp
  have hex : (Oper.semAt (fence ro).round a.eval ⟨some d, .call ⟨.value x, args, argTypes⟩, T, pos, after, g⟩).run P w = .ok (.enter f (xs ++ args.toList.map a.eval ++ ys).toArray) w := by
    rw [Oper.semAt_eq _ _ _ (fun c h => by cases h)]
    simp only [execOp, Sem.run_bind, ofValue_run hv, Result.andThen_ok, invoke, he]
    exact hf _ _
  rw [hex]
  refine ⟨fence_n, AO.call.callsIn_wide'.2 ?_⟩
  have hI2 : Inv I (A1 ++ (B ++ F)) w := by rw [← List.append_assoc]; exact hI.perm (p.append_right F)
  refine (h (B ++ F) I w _ hI2 hrl).mono fun en w' ⟨I', ae, A', E, hI', hre, hR⟩ => ?_
  have hI3 : Inv I' ((A' ++ B) ++ F) w' := by rw [List.append_assoc]; exact hI'
  cases en with
  | returned v =>
    cases ae with
    | ret av =>
      have hk := k av A' hR F I' w' (a.put (some d) v) hI3 ((hS.mono E).put (Nat.le_of_ble_eq_true hd) hre _)
      exact wpOpsIn_mono' rest (fun _ _ _ => CQ.mono E fun _ _ h => h) _ _ hk
    | pan c => exact hre.elim
  | panicked c =>
    cases ae with
    | ret av => exact hre.elim
    | pan c' =>
      cases hre
      exact ⟨I', ⟨e, ds, A' ++ B⟩, E, hI3, ⟨hS.size, (hS.mono E).env, (hS.mono E).ds⟩, kp _ A' hR⟩
  | outgrown => cases ae <;> exact hre.elim

theorem AIO.callF {fuel : Nat} {listed : Array Bool} {d : Nat} {x : Operand} {f : FuncId} {fs cs : List AV} {args : Array Operand} {argTypes : Array TypeId} {T : TypeId} {pos : String} {after : Array Edge} {g : Option (Nat × Bool)} {e : Env} {ds : List ADef} {A A1 : List Chunk} (B : List Chunk)
    {R : AE → List Chunk → Prop} {avs : List AV} (hd : Nat.blt d N = true) (hx : opv e x = .fn (.func f) fs cs) (hf : ∀ args w, (callFunc f args).run P w = .ok (.enter f args) w) (ha : fs ++ args.toList.map (opv e) ++ cs = avs)
    (h : ACalls P f avs A1 R) (p : A.Perm (A1 ++ B)) (k : ∀ av A', R (.ret av) A' → AI P N ops Q fuel listed ⟨(d, av) :: e, ds, A' ++ B⟩)
    (kp : ∀ c A', R (.pan c) A' → Q (.panic c) ⟨e, ds, A' ++ B⟩) :
    AIO P N ops Q fuel listed ⟨some d, .call ⟨.value x, args, argTypes⟩, T, pos, after, g⟩ ⟨e, ds, A⟩ := fun F I0 w0 I w a E0 hI hS => by
  have hS' := hS
  obtain ⟨xs, ys, hv, hxs, hys⟩ := rel_fn (hx ▸ hS'.op x)
  have hrl : RelL I w avs (xs ++ args.toList.map a.eval ++ ys) := by
    rw [← ha]; exact (hxs.append (RelL.map _ _ _ fun x _ => hS'.op x)).append hys
  have he : (xs.toArray ++ args.map a.eval) ++ ys.toArray = (xs ++ args.toList.map a.eval ++ ys).toArray := by apply Array.ext'; simp
  have hex : (execOp a.eval ⟨some d, .call ⟨.value x, args, argTypes⟩, T, pos, after, g⟩).run P w = .ok (.enter f (xs ++ args.toList.map a.eval ++ ys).toArray) w := by
    simp only [execOp, Sem.run_bind, ofValue_run hv, Result.andThen_ok, invoke, he]
    exact hf _ _
  unfold Oper.wp
  rw [hex]
  have hI2 : Inv I (A1 ++ (B ++ F)) w := by rw [← List.append_assoc]; exact hI.perm (p.append_right F)
  refine (h (B ++ F) I w _ hI2 hrl).mono fun en w' ⟨I', ae, A', E, hI', hre, hR⟩ => ?_
  have hI3 : Inv I' ((A' ++ B) ++ F) w' := by rw [List.append_assoc]; exact hI'
  cases en with
  | returned v =>
    cases ae with
    | ret av => exact ⟨I', E, k av A' hR F I0 w0 I' w' (a.put (some d) v) (E0.trans E) hI3 ((hS.mono E).put (Nat.le_of_ble_eq_true hd) hre _)⟩
    | pan c => exact hre.elim
  | panicked c =>
    cases ae with
    | ret av => exact hre.elim
    | pan c' =>
      cases hre
      exact ⟨I', ⟨e, ds, A' ++ B⟩, E0.trans E, hI3, ⟨hS.size, (hS.mono E).env, (hS.mono E).ds⟩, kp _ A' hR⟩
  | outgrown => cases ae <;> exact hre.elim

/-- A function value that only answers. -/
theorem AO.callFp {rest : List Nat} {d : Nat} {x : Operand} {f : FuncId} {fs cs : List AV} {args : Array Operand} {argTypes : Array TypeId} {T : TypeId} {pos : String} {after : Array Edge} {g : Option (Nat × Bool)} {e : Env} {ds : List ADef} {A : List Chunk}
    {avs : List AV} {v : AV} (hd : Nat.blt d N = true) (hx : opv e x = .fn (.func f) fs cs) (hf : ∀ args w, (callFunc f args).run P w = .ok (.enter f args) w) (ha : fs ++ args.toList.map (opv e) ++ cs = avs)
    (h : ACalls P f avs [] (Ret v [])) (k : AR P ro N ops Q rest ⟨(d, v) :: e, ds, A⟩) :
    AO P ro N ops Q rest ⟨some d, .call ⟨.value x, args, argTypes⟩, T, pos, after, g⟩ ⟨e, ds, A⟩ :=
  AO.callF A hd hx hf ha h (List.Perm.refl _) (fun av A' ⟨h1, h2⟩ => by cases h1; subst h2; exact k) (fun c A' ⟨h1, _⟩ => by cases h1)
theorem AIO.callFp {fuel : Nat} {listed : Array Bool} {d : Nat} {x : Operand} {f : FuncId} {fs cs : List AV} {args : Array Operand} {argTypes : Array TypeId} {T : TypeId} {pos : String} {after : Array Edge} {g : Option (Nat × Bool)} {e : Env} {ds : List ADef} {A : List Chunk}
    {avs : List AV} {v : AV} (hd : Nat.blt d N = true) (hx : opv e x = .fn (.func f) fs cs) (hf : ∀ args w, (callFunc f args).run P w = .ok (.enter f args) w) (ha : fs ++ args.toList.map (opv e) ++ cs = avs)
    (h : ACalls P f avs [] (Ret v [])) (k : AI P N ops Q fuel listed ⟨(d, v) :: e, ds, A⟩) :
    AIO P N ops Q fuel listed ⟨some d, .call ⟨.value x, args, argTypes⟩, T, pos, after, g⟩ ⟨e, ds, A⟩ :=
  AIO.callF A hd hx hf ha h (List.Perm.refl _) (fun av A' ⟨h1, h2⟩ => by cases h1; subst h2; exact k) (fun c A' ⟨h1, _⟩ => by cases h1)
theorem AO.callFAt {rest : List Nat} {d : Nat} {x : Operand} {f : FuncId} {fs cs : List AV} {args : Array Operand} {argTypes : Array TypeId} {T : TypeId} {pos : String} {after : Array Edge} {g : Option (Nat × Bool)} {e : Env} {ds : List ADef} {A A1 B : List Chunk}
    {R : AE → List Chunk → Prop} {avs : List AV} (is : List Nat) (hd : Nat.blt d N = true) (hx : opv e x = .fn (.func f) fs cs) (hf : ∀ args w, (callFunc f args).run P w = .ok (.enter f args) w) (ha : fs ++ args.toList.map (opv e) ++ cs = avs)
    (h : ACalls P f avs A1 R) (p : pickL A is = some (A1, B)) (hr : ∀ c A', ¬ R (.pan c) A') (k : ∀ av A', R (.ret av) A' → AR P ro N ops Q rest ⟨(d, av) :: e, ds, A' ++ B⟩) :
    AO P ro N ops Q rest ⟨some d, .call ⟨.value x, args, argTypes⟩, T, pos, after, g⟩ ⟨e, ds, A⟩ :=
  AO.callF B hd hx hf ha h (pickL_perm is _ _ _ p) k (fun c A' h => (hr c A' h).elim)
theorem AIO.callFAt {fuel : Nat} {listed : Array Bool} {d : Nat} {x : Operand} {f : FuncId} {fs cs : List AV} {args : Array Operand} {argTypes : Array TypeId} {T : TypeId} {pos : String} {after : Array Edge} {g : Option (Nat × Bool)} {e : Env} {ds : List ADef} {A A1 B : List Chunk}
    {R : AE → List Chunk → Prop} {avs : List AV} (is : List Nat) (hd : Nat.blt d N = true) (hx : opv e x = .fn (.func f) fs cs) (hf : ∀ args w, (callFunc f args).run P w = .ok (.enter f args) w) (ha : fs ++ args.toList.map (opv e) ++ cs = avs)
    (h : ACalls P f avs A1 R) (p : pickL A is = some (A1, B)) (hr : ∀ c A', ¬ R (.pan c) A') (k : ∀ av A', R (.ret av) A' → AI P N ops Q fuel listed ⟨(d, av) :: e, ds, A' ++ B⟩) :
    AIO P N ops Q fuel listed ⟨some d, .call ⟨.value x, args, argTypes⟩, T, pos, after, g⟩ ⟨e, ds, A⟩ :=
  AIO.callF B hd hx hf ha h (pickL_perm is _ _ _ p) k (fun c A' h => (hr c A' h).elim)

/-- A deferred call is laid. -/
theorem AO.defer {rest : List Nat} {x : Operand} {f : Fn} {fs cs : List AV} {args : Array Operand} {argTypes : Array TypeId} {T : TypeId} {pos : String} {after : Array Edge} {g : Option (Nat × Bool)} {e : Env} {ds : List ADef} {A : List Chunk}
    (hx : opv e x = .fn f fs cs) (k : AR P none N ops Q rest ⟨e, .call f cs (fs ++ args.toList.map (opv e)) :: ds, A⟩) :
    AO P none N ops Q rest ⟨none, .defer ⟨.value x, args, argTypes⟩, T, pos, after, g⟩ ⟨e, ds, A⟩ := fun F I w a hI hS => by
  have hS' := hS
  obtain ⟨xs, ys, hv, hxs, hys⟩ := rel_fn (hx ▸ hS'.op x)
  refine ⟨fun _ _ => fence_fn _, ?_⟩
  have hex : (Oper.semAt (fence none).round a.eval ⟨none, .defer ⟨.value x, args, argTypes⟩, T, pos, after, g⟩).run P w = .ok (.defer { target := .fn f ys.toArray, args := (xs ++ args.toList.map a.eval).toArray }) w := by
    rw [show (fence none).round = none from rfl, Oper.semAt_none]
    simp only [execOp, Sem.run_bind, ofValue_run hv, Result.andThen_ok, Sem.run_pure]
    congr 2
    congr 1
    apply Array.ext'; simp
  rw [hex]
  exact k F I w _ hI ⟨hS.size, hS.env, .cons (.call f cs _ ys _ hys (hxs.append (RelL.map _ _ _ fun x _ => hS'.op x))) hS.ds⟩

/-! ### Values that are known whole -/
mutual
def conc : AV → Option Value
  | .v x => some x
  | .ifc t a => (conc a).map (.iface t)
  | .agg l => (concL l).map fun l => .agg l.toArray
  | _ => none
def concL : List AV → Option (List Value)
  | [] => some []
  | a :: l => match conc a, concL l with
    | some x, some r => some (x :: r)
    | _, _ => none
end

mutual
theorem conc_rel {I : Info} {w : World} : ∀ (a : AV) (x v : Value), conc a = some x → Rel I w a v → v = x
  | .v y, x, v, h, hr => by cases h; cases hr; rfl
  | .ifc t a, x, v, h, hr => by
    simp only [conc, Option.map_eq_some_iff] at h
    obtain ⟨y, hy, rfl⟩ := h
    cases hr with
    | ifc _ _ z hz => rw [conc_rel a y z hy hz]
  | .agg l, x, v, h, hr => by
    simp only [conc, Option.map_eq_some_iff] at h
    obtain ⟨y, hy, rfl⟩ := h
    cases hr with
    | agg _ xs hl hr => rw [concL_rel l y xs hy ⟨hl, hr⟩]
  | .sl .., _, _, h, _ | .cp .., _, _, h, _ | .pt .., _, _, h, _ | .vw .., _, _, h, _ | .tup .., _, _, h, _ | .fn .., _, _, h, _ | .any, _, _, h, _ | .anyk .., _, _, h, _ | .anyi, _, _, h, _ | .mp .., _, _, h, _ | .rp .., _, _, h, _ | .mk .., _, _, h, _ => by simp [conc] at h
theorem concL_rel {I : Info} {w : World} : ∀ (l : List AV) (xs vs : List Value), concL l = some xs → RelL I w l vs → vs = xs
  | [], xs, vs, h, hr => by simp only [concL, Option.some.injEq] at h; rw [hr.out_nil, h]
  | a :: l, xs, vs, h, hr => by
    obtain ⟨v, vs', rfl, h1, h2⟩ := hr.out_cons
    simp only [concL] at h
    split at h
    · rename_i x r hx hrr
      cases h
      rw [conc_rel a x v hx h1, concL_rel l r vs' hrr h2]
    · cases h
end

/-- A panic. -/
theorem AO.panic {rest : List Nat} {d : Option Nat} {x : Operand} {t : TypeId} {v : Value} {T : TypeId} {pos : String} {after : Array Edge} {g : Option (Nat × Bool)} {e : Env} {ds : List ADef} {A : List Chunk}
    (hx : conc (opv e x) = some (.iface t v)) (k : Q (.panic [{ v := .iface t v, recovered := false }]) ⟨e, ds, A⟩) :
    AO P ro N ops Q rest ⟨d, .panic x, T, pos, after, g⟩ ⟨e, ds, A⟩ := fun F I w a hI hS => by
  have hv := conc_rel _ _ _ hx (hS.op x)
  refine ⟨fun _ _ => fence_fn _, ?_⟩
  have hex : (Oper.semAt (fence ro).round a.eval ⟨d, .panic x, T, pos, after, g⟩).run P w = .halt (.panic (.iface t v)) w := by
    rw [Oper.semAt_eq _ _ _ (fun c h => by cases h)]
    simp only [execOp, hv, Instr.panic, Sem.run_bind]
    rfl
  rw [hex]
  exact ⟨I, ⟨e, ds, A⟩, Ext.refl _ _, hI, hS, k⟩
end
end Go.Av
