/-
  Regions that leave their order open: an operation that yields the same whatever comes first may be taken first; of the others each that may come now is gone through. No program is spoken of.
-/
import Derived.Test.YtjhlnhipjomdeaaGreatDoorAvRow
set_option linter.unusedVariables false
set_option linter.unusedSimpArgs false
namespace Go.Av
open Go.RowKit

/-- Whatever order is picked from here on, what stands still being carried along. -/
def wpAnyI (P : Program) (ops : Array Oper) (Q : Exit → Act → World → Prop) : Nat → Array Bool → Act → World → Info → Prop
  | 0, listed, a, w, I => Region.ready .any ops listed = [] ∧ Q .normal a w
  | fuel + 1, listed, a, w, I =>
    (Region.ready .any ops listed = [] → Q .normal a w) ∧
    ∀ i ∈ Region.ready .any ops listed, wpOp P ops Q i (fun a' w' => ∃ I', Ext I w I' w' ∧ wpAnyI P ops Q fuel (listed.setIfInBounds i true) a' w' I') a w

section
variable {P : Program} {ops : Array Oper} {Q : Exit → Act → World → Prop}

theorem wpAny_of_I : ∀ (fuel : Nat) (listed : Array Bool) (a : Act) (w : World) (I : Info), wpAnyI P ops Q fuel listed a w I → wpAny P .any ops Q fuel listed a w
  | 0, _, _, _, _, h => h
  | fuel + 1, _, _, _, _, h => ⟨h.1, fun i hi => wpOp_mono (fun a' w' ⟨I', _, h'⟩ => wpAny_of_I fuel _ a' w' I' h') (h.2 i hi)⟩

/-- In state 'a' operation 'o' leaves 'v' in its temporary and does nothing else, as long as what stands still stands. -/
def YieldsI (P : Program) (ops : Array Oper) (o : Oper) (v : Value) (a : Act) (w : World) (I : Info) : Prop :=
  (Region.wanted o (yielded ops a.tmps) = true ∧ ∀ w', (∀ b j, Stab I b (j + 1) → w'.cell? ⟨b, j, none⟩ = w.cell? ⟨b, j, none⟩) → (∀ b, I.ext b = none → w'.heap[b]? = w.heap[b]?) → (execOp a.eval o).run P w' = .ok (.value v) w') ∨
  (Region.wanted o (yielded ops a.tmps) = false ∧ v = undef)

theorem YieldsI.later {o : Oper} {v : Value} {a : Act} {w w' : World} {I I' : Info} (h : YieldsI P ops o v a w I) (E : Ext I w I' w') : YieldsI P ops o v a w' I' :=
  h.imp (fun ⟨h1, h2⟩ => ⟨h1, fun w'' hw hb => h2 w'' (fun b j hj => (hw b j (E.ext b _ hj)).trans (E.cell b j hj)) (fun b hb' => (hb b (E.blk b hb').2).trans (E.blk b hb').1)⟩) id

theorem YieldsI.of_same {o : Oper} {v : Value} {a a' : Act} {w : World} {I : Info} (hy : YieldsI P ops o v a w I) (he : execOp a'.eval o = execOp a.eval o)
    (hw : Region.wanted o (yielded ops a'.tmps) = Region.wanted o (yielded ops a.tmps)) : YieldsI P ops o v a' w I := by
  unfold YieldsI at *
  rw [he, hw]
  exact hy

theorem YieldsI.wpOp {i : Nat} {o : Oper} {v : Value} {a : Act} {w : World} {I : Info} (hi : ops[i]? = some o) (hy : YieldsI P ops o v a w I) {K : Act → World → Prop} (h : K (a.put o.dst v) w) : wpOp P ops Q i K a w := by
  unfold Go.wpOp
  simp only [hi]
  rcases hy with ⟨hw, hv⟩ | ⟨hw, rfl⟩
  · simp only [hw, if_true, Oper.wp, hv w (fun _ _ _ => rfl) (fun _ _ => rfl), Oper.upon]; exact .inl h
  · simp only [hw, Bool.false_eq_true, if_false]; exact h

theorem wpOp_putI {j : Nat} {oi oj : Oper} {v : Value} (hj : ops[j]? = some oj) (hap : oi.apart ops oj = true)
    (hsi : ∀ cs b, oi.op ≠ .select cs b) (hsj : ∀ cs b, oj.op ≠ .select cs b) (hQ : ∀ c a w, Q (.panic c) (a.put oi.dst v) w → Q (.panic c) a w) {K : Act → World → Prop} {a : Act} {w w0 : World} {I : Info}
    (hy : YieldsI P ops oi v a w0 I) (h : wpOp P ops Q j K (a.put oi.dst v) w) :
    wpOp P ops Q j (fun a' w' => YieldsI P ops oi v a' w0 I ∧ K (a'.put oi.dst v) w') a w := by
  obtain ⟨h1, h2, h3⟩ := Oper.apart_spec hap
  have keep : ∀ (a : Act), YieldsI P ops oi v a w0 I → ∀ u, YieldsI P ops oi v (a.put oj.dst u) w0 I := fun a hy u =>
    hy.of_same (execOp_put oi hsi a oj.dst u h3) (wanted_put oi a oj.dst u h3)
  have keepD : ∀ d, YieldsI P ops oi v { a with defers := d :: a.defers } w0 I := fun d => hy.of_same rfl rfl
  unfold Go.wpOp at *
  simp only [hj] at *
  rw [wanted_put oj a oi.dst v h1] at h
  split
  · rename_i hw
    simp only [hw, if_true] at h
    rcases h with h | ⟨hasks, hlets⟩
    case inr => exact .inr ⟨by unfold Oper.asks at *; rw [execOp_put oj hsj a oi.dst v h1] at hasks; exact hasks, hlets⟩
    refine .inl ?_
    unfold Oper.wp at *
    rw [execOp_put oj hsj a oi.dst v h1] at h
    generalize (execOp a.eval oj).run P w = r at *
    cases r with
    | ok n w' =>
      cases n <;> simp only [Oper.upon] at h ⊢
      case value u => exact ⟨keep a hy u, by rw [← Act.put_comm a v u h2]; exact h⟩
      case skip => exact ⟨keep a hy _, by rw [← Act.put_comm a v undef h2]; exact h⟩
      case defer d =>
        refine ⟨keep _ (keepD d) _, ?_⟩
        rw [← Act.put_comm _ v undef h2, ← Act.put_defers]
        exact h
      case enter f args =>
        refine Calls.mono h fun e w'' he => ?_
        cases e with
        | returned u => exact ⟨keep a hy u, by rw [← Act.put_comm a v u h2]; exact he⟩
        | panicked c => exact hQ _ _ _ he
        | outgrown => exact he
      case row row args => exact Rows.mono h fun u w'' he => ⟨keep a hy u, by rw [← Act.put_comm a v u h2]; exact he⟩
    | halt x w' =>
      cases x <;> simp only [Oper.upon] at h ⊢
      case panic u => exact hQ _ _ _ h
  · rename_i hw
    simp only [hw] at h
    exact ⟨keep a hy _, by rw [← Act.put_comm a v undef h2]; exact h⟩

/-- **What yields the same whatever comes first may be taken first.** -/
theorem wpAnyI_first {i : Nat} {oi : Oper} {v : Value} (hi : ops[i]? = some oi) (hsel : ∀ (j : Nat) (o : Oper) cs b, ops[j]? = some o → o.op ≠ .select cs b)
    (hQ : ∀ c a w, Q (.panic c) (a.put oi.dst v) w → Q (.panic c) a w) :
    ∀ (fuel : Nat) (listed : Array Bool) (a : Act) (w : World) (I : Info),
      (∀ j oj, ops[j]? = some oj → j ≠ i → listed.getD j true = false → (∀ e ∈ oj.after, Region.binds .any e = true → e.on ≠ i) → oi.apart ops oj = true) →
      i ∈ Region.ready .any ops listed → YieldsI P ops oi v a w I →
      wpAnyI P ops Q fuel (listed.setIfInBounds i true) (a.put oi.dst v) w I → wpAnyI P ops Q (fuel + 1) listed a w I := by
  intro fuel
  induction fuel with
  | zero =>
    intro listed a w I _ hr hy H
    refine ⟨fun h => (by rw [h] at hr; cases hr), fun j hj => ?_⟩
    by_cases hji : j = i
    · subst hji; exact hy.wpOp hi ⟨I, Ext.refl _ _, H⟩
    · have := ready_mono hj hji
      rw [H.1] at this
      cases this
  | succ fuel ih =>
    intro listed a w I hfree hr hy H
    refine ⟨fun h => (by rw [h] at hr; cases hr), fun j hj => ?_⟩
    by_cases hji : j = i
    · subst hji; exact hy.wpOp hi ⟨I, Ext.refl _ _, H⟩
    · have h1 := H.2 j (ready_mono hj hji)
      obtain ⟨hjun, oj, hoj, hall⟩ := mem_ready.1 hj
      have hnot : ∀ e ∈ oj.after, Region.binds .any e = true → e.on ≠ i := fun e he hb heq => by
        have h1 := hall e he hb
        have h0 := (mem_ready.1 hr).1
        rw [heq] at h1
        rcases Nat.lt_or_ge i listed.size with h' | h'
        · simp [h'] at h0 h1; rw [h0] at h1; cases h1
        · simp [Array.getElem?_eq_none h'] at h1
      have h2 := wpOp_putI hoj (hfree j oj hoj hji hjun hnot) (fun cs b => hsel i oi cs b hi) (fun cs b => hsel j oj cs b hoj) hQ hy h1
      have hfree' : ∀ k ok, ops[k]? = some ok → k ≠ i → (listed.setIfInBounds j true).getD k true = false →
          (∀ e ∈ ok.after, Region.binds .any e = true → e.on ≠ i) → oi.apart ops ok = true := fun k ok hk hki hun hno => by
        refine hfree k ok hk hki ?_ hno
        by_cases hjk : j = k
        · subst hjk; exact hjun
        · rw [getD_set_ne true hjk] at hun; exact hun
      refine wpOp_mono (fun a' w' h3 => ?_) h2
      obtain ⟨hy', I', E, h4⟩ := h3
      refine ⟨I', E, ih (listed.setIfInBounds j true) a' w' I' hfree' (ready_mono hr (Ne.symm hji)) (hy'.later E) ?_⟩
      rw [Array.setIfInBounds_comm _ _ hji]
      exact h4
end

/-! ### In terms of content -/

def AI (P : Program) (N : Nat) (ops : Array Oper) (Q : Post) (fuel : Nat) (listed : Array Bool) (s : St) : Prop :=
  ∀ F I0 w0 I w a, Ext I0 w0 I w → Inv I (s.A ++ F) w → RelS N I w s a → wpAnyI P ops (CQ N F I0 w0 Q) fuel listed a w I

def AIO (P : Program) (N : Nat) (ops : Array Oper) (Q : Post) (fuel : Nat) (listed : Array Bool) (o : Oper) (s : St) : Prop :=
  ∀ F I0 w0 I w a, Ext I0 w0 I w → Inv I (s.A ++ F) w → RelS N I w s a →
    o.wp P a w (fun a' w' => ∃ I', Ext I w I' w' ∧ wpAnyI P ops (CQ N F I0 w0 Q) fuel listed a' w' I') (CQ N F I0 w0 Q)

section
variable {P : Program} {N : Nat} {Q : Post} {s : St} {ops : Array Oper}

theorem AW.region_draw {id : Nat} (hm : P.follows .mixedOrders = true) (h : AI P N ops Q ops.size (Array.replicate ops.size false) s) : AW P none N (.region id ops true) Q s := fun F I w a hI hS => by
  refine (wpIn_wide (n := 0)).2 (wp_region_any hm (wpAny_of_I _ _ _ _ I ?_))
  exact h F I w I w.drew a (Ext.drew I w) hI.drew (hS.mono (Ext.drew I w))

/-- Where a panic leaves, nothing is asked of this temporary. -/
def NoPanic (d : Nat) (Q : Post) : Prop := ∀ c s, Q (.panic c) s → Q (.panic c) ⟨(d, .any) :: s.env, s.ds, s.A⟩

theorem NoPanic.back {N d : Nat} {F : List Chunk} {I : Info} {w : World} {Q : Post} (hQ : NoPanic d Q) {c : List PanicEntry} {a : Act} {v : Value} {w' : World} (h : CQ N F I w Q (.panic c) (a.put (some d) v) w') : CQ N F I w Q (.panic c) a w' := by
  obtain ⟨I', s', E, hI, hS, hq⟩ := h
  refine ⟨I', ⟨(d, .any) :: s'.env, s'.ds, s'.A⟩, E, hI, ⟨?_, fun t => ?_, hS.ds⟩, hQ _ _ hq⟩
  · have := hS.size; simpa [Act.put] using this
  · simp only [ev]
    cases hb : Nat.beq d t with
    | true => exact .any _
    | false =>
      have hne : d ≠ t := fun e => by rw [e, Nat.beq_refl] at hb; cases hb
      have := hS.env t
      simp only [Act.put, Array.getD_eq_getD_getElem?, Array.getElem?_setIfInBounds_ne hne] at this
      simpa [Array.getD_eq_getD_getElem?] using this

/-- An operation that yields the same whatever comes first is taken first. -/
theorem AI.take {i d : Nat} {fuel : Nat} {listed : Array Bool} {op : Op} {T : TypeId} {pos : String} {after : Array Edge} {e : Env} {ds : List ADef} {A : List Chunk} {av : AV}
    (hi : ops[i]? = some ⟨some d, op, T, pos, after, none⟩) (hd : Nat.blt d N = true) (hs : Region.noSelect ops = true) (hf : Region.free .any ops listed i = true) (hr : (Region.ready .any ops listed).contains i = true)
    (hQ : NoPanic d Q) (h : OpS P ⟨some d, op, T, pos, after, none⟩ e av) (k : AI P N ops Q fuel (listed.setIfInBounds i true) ⟨(d, av) :: e, ds, A⟩) : AI P N ops Q (fuel + 1) listed ⟨e, ds, A⟩ := fun F I0 w0 I w a E hI hS => by
  obtain ⟨v, hv, hrun⟩ := h I w a.eval hS.op
  refine wpAnyI_first hi (Region.noSelect_spec hs) (fun c a w h => ?_) fuel listed a w I (Region.free_spec hi hf) (by simpa using hr) (.inl ⟨rfl, hrun⟩) ?_
  · exact hQ.back h
  · exact k F I0 w0 I w _ E hI (hS.put (Nat.le_of_ble_eq_true hd) hv A)

/-- Whichever may come now. -/
theorem AI.all {fuel : Nat} {listed : Array Bool} {rs : List Nat} (hr : Region.ready .any ops listed = rs) (hne : rs.isEmpty = false)
    (h : ∀ i ∈ rs, ∃ o, ops[i]? = some o ∧ o.guard = none ∧ AIO P N ops Q fuel (listed.setIfInBounds i true) o s) : AI P N ops Q (fuel + 1) listed s := fun F I0 w0 I w a E hI hS => by
  refine ⟨fun h0 => ?_, fun i hi => ?_⟩
  · rw [hr] at h0; subst h0; cases hne
  · rw [hr] at hi
    obtain ⟨o, ho, hg, h⟩ := h i hi
    unfold Go.wpOp
    simp only [ho, Region.wanted, hg, if_true]
    exact .inl (h F I0 w0 I w a E hI hS)
theorem AI.one {fuel : Nat} {listed : Array Bool} {i : Nat} {o : Oper} (hr : Region.ready .any ops listed = [i]) (ho : ops[i]? = some o) (hg : o.guard = none)
    (h : AIO P N ops Q fuel (listed.setIfInBounds i true) o s) : AI P N ops Q (fuel + 1) listed s := AI.all hr rfl fun j hj => by simp at hj; subst hj; exact ⟨o, ho, hg, h⟩
theorem AI.two {fuel : Nat} {listed : Array Bool} {i j : Nat} {o o' : Oper} (hr : Region.ready .any ops listed = [i, j]) (ho : ops[i]? = some o) (hg : o.guard = none) (ho' : ops[j]? = some o') (hg' : o'.guard = none)
    (h : AIO P N ops Q fuel (listed.setIfInBounds i true) o s) (h' : AIO P N ops Q fuel (listed.setIfInBounds j true) o' s) : AI P N ops Q (fuel + 1) listed s := AI.all hr rfl fun k hk => by
  simp at hk
  rcases hk with rfl | rfl
  · exact ⟨o, ho, hg, h⟩
  · exact ⟨o', ho', hg', h'⟩

theorem AI.done {fuel : Nat} {listed : Array Bool} (hr : Region.ready .any ops listed = []) (h : Q .normal s) : AI P N ops Q fuel listed s := fun F I0 w0 I w a E hI hS => by
  cases fuel with
  | zero => exact ⟨hr, I, s, E, hI, hS, h⟩
  | succ fuel => exact ⟨fun _ => ⟨I, s, E, hI, hS, h⟩, by rw [hr]; simp⟩

theorem AIO.opx {fuel : Nat} {listed : Array Bool} {d : Nat} {op : Op} {T : TypeId} {pos : String} {after : Array Edge} {g : Option (Nat × Bool)} {e : Env} {ds : List ADef} {A : List Chunk} {R : AV → List Chunk → Prop}
    (hd : Nat.blt d N = true) (h : OpX P ⟨some d, op, T, pos, after, g⟩ e A R) (k : ∀ av A', R av A' → AI P N ops Q fuel listed ⟨(d, av) :: e, ds, A'⟩) :
    AIO P N ops Q fuel listed ⟨some d, op, T, pos, after, g⟩ ⟨e, ds, A⟩ := fun F I0 w0 I w a E hI hS => by
  obtain ⟨n, v, w', I', av, A', hrun, hnv, E', hI', hv, hR⟩ := h F I w a.eval hI hS.op
  have hk := k av A' hR F I0 w0 I' w' (a.put (some d) v) (E.trans E') hI' ((hS.mono E').put (Nat.le_of_ble_eq_true hd) hv A')
  unfold Oper.wp
  rw [hrun]
  rcases hnv with rfl | ⟨rfl, rfl⟩ <;> exact ⟨I', E', hk⟩

theorem OpR.opX {o : Oper} {e : Env} {A A' : List Chunk} {av : AV} (h : OpR P o e A av A') : OpX P o e A (fun a B => a = av ∧ B = A') := fun F I w ρ hI hρ =>
  let ⟨n, v, w', I', h1, h2, h3, h4, h5⟩ := h F I w ρ hI hρ
  ⟨n, v, w', I', av, A', h1, h2, h3, h4, h5, rfl, rfl⟩

theorem AIO.op {fuel : Nat} {listed : Array Bool} {d : Nat} {op : Op} {T : TypeId} {pos : String} {after : Array Edge} {g : Option (Nat × Bool)} {e : Env} {ds : List ADef} {A A' : List Chunk} {av : AV}
    (hd : Nat.blt d N = true) (h : OpR P ⟨some d, op, T, pos, after, g⟩ e A av A') (k : AI P N ops Q fuel listed ⟨(d, av) :: e, ds, A'⟩) :
    AIO P N ops Q fuel listed ⟨some d, op, T, pos, after, g⟩ ⟨e, ds, A⟩ := AIO.opx hd h.opX fun _ _ ⟨h1, h2⟩ => by subst h1; subst h2; exact k

theorem AIO.op0 {fuel : Nat} {listed : Array Bool} {op : Op} {T : TypeId} {pos : String} {after : Array Edge} {g : Option (Nat × Bool)} {e : Env} {ds : List ADef} {A A' : List Chunk} {av : AV}
    (h : OpR P ⟨none, op, T, pos, after, g⟩ e A av A') (k : AI P N ops Q fuel listed ⟨e, ds, A'⟩) :
    AIO P N ops Q fuel listed ⟨none, op, T, pos, after, g⟩ ⟨e, ds, A⟩ := fun F I0 w0 I w a E hI hS => by
  obtain ⟨n, v, w', I', hrun, hnv, E', hI', hv⟩ := h F I w a.eval hI hS.op
  have hk := k F I0 w0 I' w' a (E.trans E') hI' ⟨hS.size, (hS.mono E').env, (hS.mono E').ds⟩
  unfold Oper.wp
  rw [hrun]
  rcases hnv with rfl | ⟨rfl, rfl⟩ <;> exact ⟨I', E', hk⟩

theorem AIO.call {fuel : Nat} {listed : Array Bool} {d : Nat} {f : FuncId} {args : Array Operand} {argTypes : Array TypeId} {T : TypeId} {pos : String} {after : Array Edge} {g : Option (Nat × Bool)} {e : Env} {ds : List ADef} {A A1 : List Chunk} (B : List Chunk)
    {R : AE → List Chunk → Prop} {avs : List AV} (hd : Nat.blt d N = true) (hf : ∀ args w, (callFunc f args).run P w = .ok (.enter f args) w) (ha : args.toList.map (opv e) = avs)
    (h : ACalls P f avs A1 R) (p : A.Perm (A1 ++ B)) (k : ∀ av A', R (.ret av) A' → AI P N ops Q fuel listed ⟨(d, av) :: e, ds, A' ++ B⟩)
    (kp : ∀ c A', R (.pan c) A' → Q (.panic c) ⟨e, ds, A' ++ B⟩) :
    AIO P N ops Q fuel listed ⟨some d, .call ⟨.value (.func f), args, argTypes⟩, T, pos, after, g⟩ ⟨e, ds, A⟩ := fun F I0 w0 I w a E0 hI hS => by
  have hS' := hS
  have hrl : RelL I w avs (args.toList.map a.eval) := by
    rw [← ha]; exact RelL.map _ _ _ fun x _ => hS'.op x
  have hex : (execOp a.eval ⟨some d, .call ⟨.value (.func f), args, argTypes⟩, T, pos, after, g⟩).run P w = .ok (.enter f (args.map a.eval)) w := by
    simp only [execOp, resolve, Act.eval, Deferred.ofValue, Sem.run_bind, Sem.run_pure, Result.andThen_ok, invoke]
    simp only [Array.empty_append, Array.append_empty]
    exact hf _ _
  unfold Oper.wp
  rw [hex]
  have hI2 : Inv I (A1 ++ (B ++ F)) w := by rw [← List.append_assoc]; exact hI.perm (p.append_right F)
  have hc := h (B ++ F) I w _ hI2 hrl
  have he : (args.toList.map a.eval).toArray = args.map a.eval := by apply Array.ext'; simp
  rw [he] at hc
  refine hc.mono fun en w' ⟨I', ae, A', E, hI', hre, hR⟩ => ?_
  have hI3 : Inv I' ((A' ++ B) ++ F) w' := by rw [List.append_assoc]; exact hI'
  cases en with
  | returned v =>
    cases ae with
    | ret av => exact ⟨I', E, k av A' hR F I0 w0 I' w' (a.put (some d) v) (E0.trans E) hI3 ((hS.mono E).put (Nat.le_of_ble_eq_true hd) hre _)⟩
    | pan c => exact hre.elim
  | panicked c =>
    cases ae with
    | ret av => exact hre.elim
    | pan c' =>
      cases hre
      exact ⟨I', ⟨e, ds, A' ++ B⟩, E0.trans E, hI3, ⟨hS.size, (hS.mono E).env, (hS.mono E).ds⟩, kp _ A' hR⟩
  | outgrown => cases ae <;> exact hre.elim
end
end Go.Av
