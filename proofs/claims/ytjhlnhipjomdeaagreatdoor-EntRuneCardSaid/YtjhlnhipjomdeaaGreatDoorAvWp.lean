/-
  What a piece of code makes of a state of values by content: judgments and the rules of control. No program is spoken of.
-/
import Derived.Test.YtjhlnhipjomdeaaGreatDoorAvCore
set_option linter.unusedVariables false
set_option linter.unusedSimpArgs false
namespace Go.Av

abbrev Env := List (Nat × AV)
def ev : Env → Nat → AV
  | [], _ => .any
  | (j, a) :: r, i => match Nat.beq j i with
    | true => a
    | false => ev r i

def opv (e : Env) : Operand → AV
  | .tmp t => ev e t
  | .const v => .v v
  | .global g => .v (.pointer (some ⟨g, 0, none⟩))
  | .func f => .v (.func (.func f) #[] #[])

inductive ADef where
  | call (f : Fn) (cap args : List AV)
  | mark (o : Nat)

inductive RelD (I : Info) (w : World) : ADef → Deferred → Prop where
  | call (f : Fn) (cap args : List AV) (xs ys : List Value) (h : RelL I w cap xs) (g : RelL I w args ys) : RelD I w (.call f cap args) { target := .fn f xs.toArray, args := ys.toArray }
  | mark (o b : Nat) (h : I.obj o = some b) : RelD I w (.mark o) { target := .collected b, args := #[] }

inductive RelDs (I : Info) (w : World) : List ADef → List Deferred → Prop where
  | nil : RelDs I w [] []
  | cons {a : ADef} {d : Deferred} {as : List ADef} {ds : List Deferred} (h : RelD I w a d) (g : RelDs I w as ds) : RelDs I w (a :: as) (d :: ds)

theorem RelD.mono {I I' : Info} {w w' : World} (E : Ext I w I' w') {a : ADef} {d : Deferred} (h : RelD I w a d) : RelD I' w' a d := by
  cases h with
  | call f cap args xs ys h g => exact .call f cap args xs ys (h.mono E) (g.mono E)
  | mark o b h => exact .mark o b (E.obj _ _ h)
theorem RelDs.mono {I I' : Info} {w w' : World} (E : Ext I w I' w') {a : List ADef} {d : List Deferred} (h : RelDs I w a d) : RelDs I' w' a d := by
  induction h with
  | nil => exact .nil
  | cons h _ ih => exact .cons (h.mono E) ih

structure St where
  env : Env
  ds : List ADef
  A : List Chunk

structure RelS (N : Nat) (I : Info) (w : World) (s : St) (a : Act) : Prop where
  size : a.tmps.size = N
  env : ∀ t, Rel I w (ev s.env t) (a.tmps.getD t undef)
  ds : RelDs I w s.ds a.defers

theorem RelS.mono {N : Nat} {I I' : Info} {w w' : World} (E : Ext I w I' w') {s : St} {a : Act} (h : RelS N I w s a) : RelS N I' w' s a := ⟨h.size, fun t => (h.env t).mono E, h.ds.mono E⟩

theorem RelS.op {N : Nat} {I : Info} {w : World} {s : St} {a : Act} (h : RelS N I w s a) (x : Operand) : Rel I w (opv s.env x) (a.eval x) := by
  cases x with
  | tmp t => exact h.env t
  | const v => exact .v v
  | global g => exact .v _
  | func f => exact .v _

theorem RelS.put {N : Nat} {I : Info} {w : World} {s : St} {a : Act} (h : RelS N I w s a) {d : Nat} (hd : d < N) {av : AV} {v : Value} (hv : Rel I w av v) (A : List Chunk) :
    RelS N I w { s with env := (d, av) :: s.env, A := A } (a.put (some d) v) := by
  refine ⟨by simp [Act.put, h.size], fun t => ?_, h.ds⟩
  simp only [ev, Act.put]
  have hs := h.size
  by_cases e : d = t
  · subst e
    have : Nat.beq d d = true := Nat.beq_refl d
    simp only [this, Array.getD_eq_getD_getElem?, Array.getElem?_setIfInBounds_self_of_lt (show d < a.tmps.size by omega), Option.getD_some]
    exact hv
  · have hb : Nat.beq d t = false := by
      cases hb : Nat.beq d t with
      | false => rfl
      | true => exact absurd (Nat.eq_of_beq_eq_true hb) e
    simp only [hb, Array.getD_eq_getD_getElem?, Array.getElem?_setIfInBounds_ne e]
    have := h.env t
    simpa [Array.getD_eq_getD_getElem?] using this

abbrev Post := Exit → St → Prop

def Then (K : St → Prop) (Q : Post) : Post
  | .normal, s => K s
  | e, s => Q e s

/-- What a concrete exit must come to. -/
def CQ (N : Nat) (F : List Chunk) (I : Info) (w : World) (Q : Post) : Exit → Act → World → Prop := fun e a' w' =>
  ∃ I' s', Ext I w I' w' ∧ Inv I' (s'.A ++ F) w' ∧ RelS N I' w' s' a' ∧ Q e s'

theorem CQ.mono {N : Nat} {F : List Chunk} {I I1 : Info} {w w1 : World} {Q Q' : Post} (E : Ext I w I1 w1) (h : ∀ e s, Q e s → Q' e s) {e : Exit} {a : Act} {w' : World}
    (hc : CQ N F I1 w1 Q e a w') : CQ N F I w Q' e a w' := let ⟨I', s', h1, h2, h3, h4⟩ := hc; ⟨I', s', E.trans h1, h2, h3, h _ _ h4⟩

def fence (ro : Option Nat) : Fence := { Fence.wide with round := ro }

def AW (P : Program) (ro : Option Nat) (N : Nat) (c : Code) (Q : Post) (s : St) : Prop :=
  ∀ F I w a, Inv I (s.A ++ F) w → RelS N I w s a → c.wpIn (fence ro) 0 P (CQ N F I w Q) a w

def AR (P : Program) (ro : Option Nat) (N : Nat) (ops : Array Oper) (Q : Post) (l : List Nat) (s : St) : Prop :=
  ∀ F I w a, Inv I (s.A ++ F) w → RelS N I w s a → wpOpsIn (fence ro) 0 P ops (CQ N F I w Q) l a w

/-- One state may be read as another. -/
def WK (N : Nat) (s s' : St) : Prop :=
  ∀ F I w a, Inv I (s.A ++ F) w → RelS N I w s a → ∃ I', Ext I w I' w ∧ Inv I' (s'.A ++ F) w ∧ RelS N I' w s' a

section
variable {P : Program} {ro : Option Nat} {N : Nat} {Q Q' : Post} {s : St}

theorem AW.mono {c : Code} (h : AW P ro N c Q s) (hq : ∀ e s, Q e s → Q' e s) : AW P ro N c Q' s := fun F I w a hI hS => wpIn_mono (h F I w a hI hS) fun _ _ _ => CQ.mono (Ext.refl _ _) hq
theorem AW.skip (h : Q .normal s) : AW P ro N .skip Q s := fun F I w a hI hS => wpIn_skip ⟨I, s, Ext.refl _ _, hI, hS, h⟩
theorem AW.label {l : Nat} (h : Q .normal s) : AW P ro N (.label l) Q s := fun F I w a hI hS => wpIn_label ⟨I, s, Ext.refl _ _, hI, hS, h⟩
theorem AW.exit {id : Nat} (h : Q (.exit id) s) : AW P ro N (.exit id) Q s := fun F I w a hI hS => wpIn_exit ⟨I, s, Ext.refl _ _, hI, hS, h⟩
theorem AW.goto {l : Nat} (h : Q (.goto l) s) : AW P ro N (.goto l) Q s := fun F I w a hI hS => wpIn_goto ⟨I, s, Ext.refl _ _, hI, hS, h⟩
theorem AW.ret (h : Q .ret s) : AW P ro N .ret Q s := fun F I w a hI hS => wpIn_ret ⟨I, s, Ext.refl _ _, hI, hS, h⟩

theorem AW.weaken {c : Code} {s' : St} (k : WK N s s') (h : AW P ro N c Q s') : AW P ro N c Q s := fun F I w a hI hS =>
  let ⟨I', E, hI', hS'⟩ := k F I w a hI hS
  wpIn_mono (h F I' w a hI' hS') fun _ _ _ => CQ.mono E fun _ _ h => h

theorem AW.seq {x y : Code} (h : AW P ro N x (Then (AW P ro N y Q) Q) s) : AW P ro N (.seq x y) Q s := fun F I w a hI hS => by
  refine wpIn_seq (wpIn_mono (h F I w a hI hS) fun e a' w' hq => ?_)
  obtain ⟨I', s', E, hI', hS', hq⟩ := hq
  cases e with
  | normal => exact wpIn_mono (hq F I' w' a' hI' hS') fun _ _ _ => CQ.mono E fun _ _ h => h
  | _ => exact ⟨I', s', E, hI', hS', hq⟩

theorem AW.cond {c : Operand} {x y : Code} {b : Bool} (hc : opv s.env c = .v (.bool b)) (ht : b = true → AW P ro N x Q s) (hf : b = false → AW P ro N y Q s) :
    AW P ro N (.cond c x y) Q s := fun F I w a hI hS => by
  have h := hS.op c
  rw [hc] at h
  have he : a.eval c = .bool b := by generalize a.eval c = x at h; cases h; rfl
  exact wpIn_cond_split he (fun e => ht e F I w a hI hS) (fun e => hf e F I w a hI hS)

def InBlock (id : Nat) (Q : Post) : Post
  | .exit id', s => if id' = id then Q .normal s else Q (.exit id') s
  | e, s => Q e s

theorem AW.block {id : Nat} {c : Code} (h : AW P ro N c (InBlock id Q) s) : AW P ro N (.block id c) Q s := fun F I w a hI hS => by
  refine wpIn_block (wpIn_mono (h F I w a hI hS) fun e a' w' hq => ?_)
  obtain ⟨I', s', E, hI', hS', hq⟩ := hq
  cases e with
  | exit id' =>
    simp only [Exit.inBlock]
    simp only [InBlock] at hq
    split
    · rename_i e; rw [if_pos e] at hq; exact ⟨I', s', E, hI', hS', hq⟩
    · rename_i e; rw [if_neg e] at hq; exact ⟨I', s', E, hI', hS', hq⟩
  | _ => exact ⟨I', s', E, hI', hS', hq⟩

def NoGoto (Q : Post) : Post
  | .goto _, _ => False
  | e, s => Q e s

/-- A scope out of which nothing jumps back. -/
theorem AW.scope {c : Code} (h : AW P none N c (NoGoto Q) s) : AW P none N (.scope c) Q s := fun F I w a hI hS => by
  refine (wpIn_wide (n := 0)).2 (wp_scope_straight (wp_mono ((wpIn_wide (n := 0)).1 (h F I w a hI hS)) fun e a' w' hq => ?_))
  obtain ⟨I', s', E, hI', hS', hq⟩ := hq
  cases e with
  | goto l => exact hq.elim
  | _ => exact ⟨I', s', E, hI', hS', hq⟩

/-- A loop: states 'st x', for those x that are fine; each round goes on at a lesser one, or leaves. -/
theorem AW.loop {X : Type} (st : X → St) (ok : X → Prop) (μ : X → Nat) {c : Code} (x₀ : X) (h₀ : ok x₀) (k₀ : WK N s (st x₀))
    (round : ∀ x, ok x → AW P ro N c (Then (fun s' => ∃ x', ok x' ∧ μ x' < μ x ∧ WK N s' (st x')) Q) (st x)) : AW P ro N (.loop c) Q s := by
  intro F I w a hI hS
  obtain ⟨I0, E0, hI0, hS0⟩ := k₀ F I w a hI hS
  intro b k cs hro hb hr
  have key : ∀ j x I1 a w1, μ x = j → ok x → Ext I w I1 w1 → Inv I1 ((st x).A ++ F) w1 → RelS N I1 w1 (st x) a →
      ∃ e a' w', CQ N F I w Q e a' w' ∧ ArrivesIn (Machine.fenced P (fence ro)) P (lone (b.atR a (.code c :: .inLoop c :: k)) cs w1) b k cs e a' w' := by
    intro j
    induction j using Nat.strongRecOn with
    | _ j ih =>
      intro x I1 a w1 hj hx E hI1 hS1
      obtain ⟨e, a₁, w₁, hq, harr⟩ := round x hx F I1 w1 a hI1 hS1 b (.inLoop c :: k) cs hro hb hr
      obtain ⟨I2, s2, E2, hI2, hS2, hq⟩ := hq
      cases e with
      | normal =>
        obtain ⟨x', hx', hlt, hk⟩ := hq
        obtain ⟨I3, E3, hI3, hS3⟩ := hk F I2 w₁ a₁ hI2 hS2
        obtain ⟨e₂, a₂, w₂, hq₂, harr₂⟩ := ih (μ x') (hj ▸ hlt) x' I3 a₁ w₁ rfl hx' ((E.trans E2).trans E3) hI3 hS3
        exact ⟨e₂, a₂, w₂, hq₂, .of_steps (StepsIn.trans harr (.one (fenced_calm hb hr rfl) stepR_inLoop)) harr₂⟩
      | exit id => exact ⟨_, a₁, w₁, ⟨I2, s2, E.trans E2, hI2, hS2, hq⟩, .pass (x := .inLoop c) rfl (fun _ _ => .inl (by simp)) harr⟩
      | goto l => exact ⟨_, a₁, w₁, ⟨I2, s2, E.trans E2, hI2, hS2, hq⟩, .pass (x := .inLoop c) rfl (fun _ _ => .inl (by simp)) harr⟩
      | ret => exact ⟨_, a₁, w₁, ⟨I2, s2, E.trans E2, hI2, hS2, hq⟩, .pass (x := .inLoop c) rfl (fun _ _ => .inl (by simp)) harr⟩
      | panic ch => exact ⟨_, a₁, w₁, ⟨I2, s2, E.trans E2, hI2, hS2, hq⟩, .pass (x := .inLoop c) rfl (fun _ _ => .inl (by simp)) harr⟩
      | outgrown => exact ⟨_, a₁, w₁, ⟨I2, s2, E.trans E2, hI2, hS2, hq⟩, .pass (x := .inLoop c) rfl (fun _ _ => .inl (by simp)) harr⟩
  obtain ⟨e, a', w', hq, harr⟩ := key _ x₀ I0 a w rfl h₀ E0 hI0 hS0
  exact ⟨e, a', w', hq, .of_steps (.one (fenced_calm hb hr rfl) stepR_loop) harr⟩

/-- A piece and what comes behind it meet at some states. -/
theorem AW.cut {X : Type} (st : X → St) (ok : X → Prop) {x y : Code} (h : AW P ro N x (Then (fun s' => ∃ i, ok i ∧ WK N s' (st i)) Q) s) (k : ∀ i, ok i → AW P ro N y Q (st i)) : AW P ro N (.seq x y) Q s :=
  AW.seq (h.mono fun e s' hq => by
    cases e with
    | normal => obtain ⟨i, hi, hk⟩ := hq; exact AW.weaken hk (k i hi)
    | _ => exact hq)

/-! ### Weaker states -/

/-- Some of these chunks. -/
def Sub (B A : List Chunk) : Prop := ∃ C : List Chunk, C.Perm B ∧ C.Sublist A
theorem Sub.refl (A : List Chunk) : Sub A A := ⟨A, List.Perm.refl _, List.Sublist.refl _⟩
theorem Sub.nil (A : List Chunk) : Sub [] A := ⟨[], List.Perm.refl _, List.nil_sublist _⟩
theorem Sub.cons (c : Chunk) {A B : List Chunk} (h : Sub B A) : Sub (c :: B) (c :: A) := let ⟨C, p, s⟩ := h; ⟨c :: C, p.cons c, s.cons_cons c⟩
theorem Sub.skip (c : Chunk) {A B : List Chunk} (h : Sub B A) : Sub B (c :: A) := let ⟨C, p, s⟩ := h; ⟨C, p, s.cons c⟩
theorem Sub.inv {A B F : List Chunk} {I : Info} {w : World} (h : Sub B A) (hI : Inv I (A ++ F) w) : Inv I (B ++ F) w := let ⟨C, p, s⟩ := h; (hI.sub (s.append (List.Sublist.refl F))).perm (p.append_right F)



theorem WK.refl (s : St) : WK N s s := fun F I w a hI hS => ⟨I, Ext.refl _ _, hI, hS⟩
theorem WK.trans {s s' s'' : St} (h : WK N s s') (g : WK N s' s'') : WK N s s'' := fun F I w a hI hS =>
  let ⟨I', E, hI', hS'⟩ := h F I w a hI hS
  let ⟨I'', E', hI'', hS''⟩ := g F I' w a hI' hS'
  ⟨I'', E.trans E', hI'', hS''⟩

/-- One value may be read as another. -/
inductive Wv : AV → AV → Prop where
  | refl (a : AV) : Wv a a
  | any (a : AV) : Wv a .any
  | tok (k : Nat) (cs : List AV) (t : Option Nat) : Wv (.sl k cs t) (.sl k cs none)
  | nil (k : Nat) : Wv (.v (.slice none 0 0)) (.sl k [] none)
  | ifc (t : TypeId) (x : AV) : Wv (.ifc t x) (.ifc t .any)

theorem Wv.rel {I : Info} {w : World} {a b : AV} {x : Value} (h : Wv a b) (hr : Rel I w a x) : Rel I w b x := by
  cases h with
  | refl => exact hr
  | any => exact .any x
  | tok k cs t =>
    cases hr with
    | slz => exact .slz _ _ _
    | slnil k t ht => exact .slz _ _ _
    | sl k cs t b off len cap xs hk hlen hcap hst hx hr ht => exact .sl k cs none b off len cap xs hk hlen hcap hst hx hr (fun t' e => by cases e)
  | nil k => cases hr; exact .slz _ _ _
  | ifc t x => cases hr; exact .ifc t .any _ (.any _)

/-- The slots that are named hold what they should; all others are forgotten. -/
def Env.le (e : Env) (l : Env) : Prop := ∀ p ∈ l, Wv (ev e p.1) p.2

theorem Env.le.nil (e : Env) : Env.le e [] := fun _ h => by cases h
theorem Env.le.cons {e : Env} {i : Nat} {a : AV} {l : Env} (h : Wv (ev e i) a) (g : Env.le e l) : Env.le e ((i, a) :: l) := fun p hp => by
  rcases List.mem_cons.1 hp with rfl | hp
  · exact h
  · exact g p hp

theorem Env.le.ev {e l : Env} (h : Env.le e l) (t : Nat) : Wv (ev e t) (ev l t) := by
  induction l with
  | nil => exact .any _
  | cons p l ih =>
    obtain ⟨j, a⟩ := p
    simp only [Av.ev]
    cases hb : Nat.beq j t with
    | false => exact ih fun q hq => h q (List.mem_cons_of_mem _ hq)
    | true =>
      have := Nat.eq_of_beq_eq_true hb
      subst this
      exact h _ (List.mem_cons_self ..)

theorem WK.env {e l : Env} {ds : List ADef} {A B : List Chunk} (h : Env.le e l) (p : Sub B A) : WK N ⟨e, ds, A⟩ ⟨l, ds, B⟩ := fun F I w a hI hS =>
  ⟨I, Ext.refl _ _, p.inv hI, ⟨hS.size, fun t => (h.ev t).rel (hS.env t), hS.ds⟩⟩

/-- The nil slice in a slot may grow from now on. -/
theorem AW.nil_grows {c : Code} {e : Env} {ds : List ADef} {A : List Chunk} (i k : Nat) (Ty : TypeId) (hi : ev e i = .v (.slice none 0 0))
    (h : ∀ t, AW P ro N c Q ⟨(i, .sl k [] (some t)) :: e, ds, .tok t Ty :: A⟩) : AW P ro N c Q ⟨e, ds, A⟩ := fun F I w a hI hS => by
  obtain ⟨t, ht⟩ := hI.fresh_tok
  obtain ⟨E, hI'⟩ := hI.nil_tok ht Ty
  have hS' := hS.mono E
  refine wpIn_mono (h t F (I.nilTok t) w a hI' ⟨hS.size, fun j => ?_, hS'.ds⟩) fun _ _ _ => CQ.mono E fun _ _ h => h
  have hj := hS'.env j
  simp only [ev]
  cases hb : Nat.beq i j with
  | false => exact hj
  | true =>
    have := Nat.eq_of_beq_eq_true hb
    subst this
    simp only [hi] at hj
    simp only
    generalize a.tmps.getD i undef = x at hj
    cases hj
    exact .slnil k t (by simp [Info.nilTok])

/-- A nil slice in an object may grow from now on. -/
theorem AW.nil_obj {c : Code} {e : Env} {ds : List ADef} {A : List Chunk} {o : Nat} {cs : List AV} (j k : Nat) (Ty : TypeId) (hj : cs[j]? = some (.v (.slice none 0 0)))
    (h : ∀ t, AW P ro N c Q ⟨e, ds, .obj o (cs.set j (.sl k [] (some t))) :: .tok t Ty :: A⟩) : AW P ro N c Q ⟨e, ds, .obj o cs :: A⟩ := fun F I w a hI hS => by
  obtain ⟨t, ht⟩ := hI.fresh_tok
  obtain ⟨E, hI'⟩ := hI.nil_tok ht Ty
  have hS' := hS.mono E
  have hp : Inv (I.nilTok t) (.obj o cs :: .tok t Ty :: (A ++ F)) w := hI'.perm (List.Perm.swap _ _ _)
  have hK : Inv (I.nilTok t) (.obj o (cs.set j (.sl k [] (some t))) :: .tok t Ty :: (A ++ F)) w := by
    refine Inv.cons (hp.sub (List.sublist_cons_self ..)) ?_ (fun b hb d hd e => ?_)
    · obtain ⟨b, arr, ho, he, hc, hr⟩ := hp.holds _ (List.mem_cons_self ..)
      refine ⟨b, arr, ho, he, hc, by simp [hr.1], fun i hi => ?_⟩
      have hi' : i < cs.length := by simpa using hi
      by_cases hij : j = i
      · subst hij
        simp only [List.getElem_set_self]
        have := hr.2 j hi'
        have hcj : cs[j] = .v (.slice none 0 0) := (List.getElem?_eq_some_iff.1 hj).2
        rw [hcj] at this
        generalize arr.getD j undef = x at this
        cases this
        exact .slnil k t (by simp [Info.nilTok])
      · rw [List.getElem_set_ne hij]; exact hr.2 i hi'
    · exact hp.apart (c := .obj o cs) (b := b) hb d hd e
  exact wpIn_mono (h t F (I.nilTok t) w a hK ⟨hS'.size, hS'.env, hS'.ds⟩) fun _ _ _ => CQ.mono E fun _ _ h => h

/-! ### Regions -/

theorem AW.region {id : Nat} {ops : Array Oper} (h : AR P ro N ops Q (List.range ops.size) s) : AW P ro N (.region id ops false) Q s := fun F I w a hI hS => wpIn_region (h F I w a hI hS)

theorem AR.nil {ops : Array Oper} (h : Q .normal s) : AR P ro N ops Q [] s := fun F I w a hI hS => ⟨I, s, Ext.refl _ _, hI, hS, h⟩

/-- What an operation makes: a value by content, and other chunks. -/
def OpR (P : Program) (o : Oper) (e : Env) (A : List Chunk) (av : AV) (A' : List Chunk) : Prop :=
  ∀ F I w ρ, Inv I (A ++ F) w → (∀ x, Rel I w (opv e x) (ρ x)) → ∃ n v w' I', (execOp ρ o).run P w = .ok n w' ∧ (n = .value v ∨ n = .skip ∧ v = undef) ∧
    Ext I w I' w' ∧ Inv I' (A' ++ F) w' ∧ Rel I' w' av v

/-- An operation that leaves the world alone, whatever becomes of what does not stand still. -/
def OpS (P : Program) (o : Oper) (e : Env) (av : AV) : Prop :=
  ∀ I w ρ, (∀ x, Rel I w (opv e x) (ρ x)) → ∃ v, Rel I w av v ∧ ∀ w', (∀ b j, Stab I b (j + 1) → w'.cell? ⟨b, j, none⟩ = w.cell? ⟨b, j, none⟩) →
    (∀ b, I.ext b = none → w'.heap[b]? = w.heap[b]?) → (execOp ρ o).run P w' = .ok (.value v) w'

theorem OpS.opR {o : Oper} {e : Env} {av : AV} (h : OpS P o e av) (A : List Chunk) : OpR P o e A av A := fun F I w ρ hI hρ =>
  let ⟨v, hv, hw⟩ := h I w ρ hρ
  ⟨.value v, v, w, I, hw w (fun _ _ _ => rfl) (fun _ _ => rfl), .inl rfl, Ext.refl _ _, hI, hv⟩

theorem put_none (a : Act) (v : Value) : a.put none v = a := rfl

theorem fence_fn (f : FuncId) : (fence ro).fn f := trivial
theorem fence_n {n : Nat} : (fence ro).depth.isSome = true → 1 ≤ n := fun h => by simp [fence, Fence.wide] at h

def isDefer : Op → Bool
  | .defer _ => true
  | _ => false
theorem not_defer {op : Op} (h : isDefer op = false) (c : Call) : op ≠ .defer c := fun e => by subst e; cases h

theorem wpOpsIn_mono' {ops : Array Oper} {R R' : Exit → Act → World → Prop} (l : List Nat) (h : ∀ e a w, R e a w → R' e a w) :
    ∀ a w, wpOpsIn (fence ro) 0 P ops R l a w → wpOpsIn (fence ro) 0 P ops R' l a w := by
  induction l with
  | nil => exact fun a w hh => h _ _ _ hh
  | cons i rest ih =>
    intro a w hh
    simp only [wpOpsIn] at hh ⊢
    cases ho : ops[i]? with
    | none => simp only [ho] at hh ⊢; exact ih a w hh
    | some o =>
      simp only [ho] at hh ⊢
      by_cases hw : Region.wanted o (yielded ops a.tmps) = true
      · simp only [hw, if_true] at hh ⊢
        refine ⟨hh.1, ?_⟩
        have h2 := hh.2
        generalize (o.semAt (fence ro).round a.eval).run P w = r at h2 ⊢
        cases r with
        | ok n w' =>
          cases n <;> simp only [Oper.uponIn] at h2 ⊢ <;> first
            | exact ih _ _ h2
            | exact ⟨h2.1, h2.2.mono fun e w'' he => by cases e <;> first | exact ih _ _ he | exact h _ _ _ he | exact he.imp fun _ ⟨w, hq⟩ => ⟨w, h _ _ _ hq⟩⟩
            | exact ⟨h2.1, h2.2.mono fun v w'' he => ih _ _ he⟩
            | exact h2
        | halt x w' => cases x <;> simp only [Oper.uponIn] at h2 ⊢ <;> first | exact h _ _ _ h2 | exact h2
      · simp only [hw, if_false, Bool.false_eq_true] at hh ⊢
        exact ⟨hh.1, ih _ _ hh.2⟩

/-- One operation, whatever its guard says, and then the rest of the region. -/
def AO (P : Program) (ro : Option Nat) (N : Nat) (ops : Array Oper) (Q : Post) (rest : List Nat) (o : Oper) (s : St) : Prop :=
  ∀ F I w a, Inv I (s.A ++ F) w → RelS N I w s a → o.wpIn (fence ro) 0 P a w (wpOpsIn (fence ro) 0 P ops (CQ N F I w Q) rest) (CQ N F I w Q)

theorem AR.run {ops : Array Oper} {i : Nat} {rest : List Nat} {o : Oper} (ho : ops[i]? = some o) (hg : o.guard = none) (h : AO P ro N ops Q rest o s) : AR P ro N ops Q (i :: rest) s := fun F I w a hI hS => by
  simp only [wpOpsIn, ho, Region.wanted, hg, if_true]
  exact h F I w a hI hS

/-- A guarded operation: it is carried out, or it is not. -/
theorem AR.guard {ops : Array Oper} {i : Nat} {rest : List Nat} {o : Oper} {j t : Nat} {want b : Bool} {e : Env} {ds : List ADef} {A : List Chunk}
    (ho : ops[i]? = some o) (hg : o.guard = some (j, want)) (hj : (ops[j]?).bind (·.dst) = some t) (hb : ev e t = .v (.bool b)) (ht : Nat.blt t N = true)
    (h1 : b = want → AO P ro N ops Q rest o ⟨e, ds, A⟩)
    (h2 : b = !want → ∀ d, o.dst = some d → Nat.blt d N = true ∧ AR P ro N ops Q rest ⟨(d, .v undef) :: e, ds, A⟩) (hd : o.dst ≠ none) : AR P ro N ops Q (i :: rest) ⟨e, ds, A⟩ := fun F I w a hI hS => by
  have htlt : t < N := Nat.le_of_ble_eq_true ht
  have hv : a.tmps[t]? = some (.bool b) := by
    have h := hS.env t
    simp only [hb] at h
    have hs := hS.size
    have hlt : t < a.tmps.size := by omega
    rw [Array.getD_eq_getD_getElem?, Array.getElem?_eq_getElem hlt, Option.getD_some] at h
    rw [Array.getElem?_eq_getElem hlt]
    generalize a.tmps[t] = x at h
    cases h; rfl
  have hy : yielded ops a.tmps j = some b := by simp only [yielded, hj, Option.bind_some, hv]
  simp only [wpOpsIn, ho, Region.wanted, hg, hy]
  by_cases hw : b = want
  · subst hw
    simp only [beq_self_eq_true, if_true]
    exact h1 rfl F I w a hI hS
  · have hb' : (some b == some want) = false := by cases b <;> cases want <;> simp_all
    simp only [hb', Bool.false_eq_true, if_false]
    refine ⟨fun _ _ => trivial, ?_⟩
    obtain ⟨d, hd⟩ := Option.ne_none_iff_exists'.1 hd
    obtain ⟨hdN, hk⟩ := h2 (by cases b <;> cases want <;> simp_all) d hd
    rw [hd]
    exact hk F I w _ hI (hS.put (Nat.le_of_ble_eq_true hdN) (.v _) A)

/-- An operation whose guard was not reckoned itself: it is not carried out. -/
theorem AR.guard_u {ops : Array Oper} {i : Nat} {rest : List Nat} {o : Oper} {j t : Nat} {want : Bool} {e : Env} {ds : List ADef} {A : List Chunk}
    (ho : ops[i]? = some o) (hg : o.guard = some (j, want)) (hj : (ops[j]?).bind (·.dst) = some t) (hb : ev e t = .v undef) (ht : Nat.blt t N = true)
    (h2 : ∀ d, o.dst = some d → Nat.blt d N = true ∧ AR P ro N ops Q rest ⟨(d, .v undef) :: e, ds, A⟩) (hd : o.dst ≠ none) : AR P ro N ops Q (i :: rest) ⟨e, ds, A⟩ := fun F I w a hI hS => by
  have htlt : t < N := Nat.le_of_ble_eq_true ht
  have hv : a.tmps[t]? = some undef := by
    have h := hS.env t
    simp only [hb] at h
    have hs := hS.size
    have hlt : t < a.tmps.size := by omega
    rw [Array.getD_eq_getD_getElem?, Array.getElem?_eq_getElem hlt, Option.getD_some] at h
    rw [Array.getElem?_eq_getElem hlt]
    generalize a.tmps[t] = x at h
    cases h; rfl
  have hy : yielded ops a.tmps j = none := by simp only [yielded, hj, Option.bind_some, hv]; rfl
  simp only [wpOpsIn, ho, Region.wanted, hg, hy]
  have hb' : ((none : Option Bool) == some want) = false := by cases want <;> rfl
  simp only [hb', Bool.false_eq_true, if_false]
  refine ⟨fun _ _ => trivial, ?_⟩
  obtain ⟨d, hd⟩ := Option.ne_none_iff_exists'.1 hd
  obtain ⟨hdN, hk⟩ := h2 d hd
  rw [hd]
  exact hk F I w _ hI (hS.put (Nat.le_of_ble_eq_true hdN) (.v _) A)

theorem AO.op {ops : Array Oper} {rest : List Nat} {d : Nat} {op : Op} {T : TypeId} {pos : String} {after : Array Edge} {g : Option (Nat × Bool)} {e : Env} {ds : List ADef} {A A' : List Chunk} {av : AV}
    (hd : Nat.blt d N = true) (hn : isDefer op = false) (h : OpR P ⟨some d, op, T, pos, after, g⟩ e A av A')
    (k : AR P ro N ops Q rest ⟨(d, av) :: e, ds, A'⟩) : AO P ro N ops Q rest ⟨some d, op, T, pos, after, g⟩ ⟨e, ds, A⟩ := fun F I w a hI hS => by
  obtain ⟨n, v, w', I', hrun, hnv, E, hI', hv⟩ := h F I w a.eval hI hS.op
  have hk := k F I' w' (a.put (some d) v) hI' ((hS.mono E).put (Nat.le_of_ble_eq_true hd) hv A')
  refine ⟨fun _ _ => fence_fn _, ?_⟩
  rw [Oper.semAt_eq _ _ _ (not_defer hn), hrun]
  have hk' : wpOpsIn (fence ro) 0 P ops (CQ N F I w Q) rest (a.put (some d) v) w' := wpOpsIn_mono' rest (fun _ _ _ => CQ.mono E fun _ _ h => h) _ _ hk
  rcases hnv with rfl | ⟨rfl, rfl⟩ <;> exact hk'

theorem AO.ops {ops : Array Oper} {rest : List Nat} {d : Nat} {op : Op} {T : TypeId} {pos : String} {after : Array Edge} {g : Option (Nat × Bool)} {e : Env} {ds : List ADef} {A : List Chunk} {av : AV}
    (hd : Nat.blt d N = true) (hn : isDefer op = false) (h : OpS P ⟨some d, op, T, pos, after, g⟩ e av)
    (k : AR P ro N ops Q rest ⟨(d, av) :: e, ds, A⟩) : AO P ro N ops Q rest ⟨some d, op, T, pos, after, g⟩ ⟨e, ds, A⟩ := AO.op hd hn (h.opR A) k

/-- As OpR, where what comes out is one of several. -/
def OpX (P : Program) (o : Oper) (e : Env) (A : List Chunk) (R : AV → List Chunk → Prop) : Prop :=
  ∀ F I w ρ, Inv I (A ++ F) w → (∀ x, Rel I w (opv e x) (ρ x)) → ∃ n v w' I' av A', (execOp ρ o).run P w = .ok n w' ∧ (n = .value v ∨ n = .skip ∧ v = undef) ∧
    Ext I w I' w' ∧ Inv I' (A' ++ F) w' ∧ Rel I' w' av v ∧ R av A'

theorem AO.opx {ops : Array Oper} {rest : List Nat} {d : Nat} {op : Op} {T : TypeId} {pos : String} {after : Array Edge} {g : Option (Nat × Bool)} {e : Env} {ds : List ADef} {A : List Chunk}
    {R : AV → List Chunk → Prop} (hd : Nat.blt d N = true) (hn : isDefer op = false) (h : OpX P ⟨some d, op, T, pos, after, g⟩ e A R)
    (k : ∀ av A', R av A' → AR P ro N ops Q rest ⟨(d, av) :: e, ds, A'⟩) : AO P ro N ops Q rest ⟨some d, op, T, pos, after, g⟩ ⟨e, ds, A⟩ := fun F I w a hI hS => by
  obtain ⟨n, v, w', I', av, A', hrun, hnv, E, hI', hv, hR⟩ := h F I w a.eval hI hS.op
  have hk := k av A' hR F I' w' (a.put (some d) v) hI' ((hS.mono E).put (Nat.le_of_ble_eq_true hd) hv A')
  refine ⟨fun _ _ => fence_fn _, ?_⟩
  rw [Oper.semAt_eq _ _ _ (not_defer hn), hrun]
  have hk' : wpOpsIn (fence ro) 0 P ops (CQ N F I w Q) rest (a.put (some d) v) w' := wpOpsIn_mono' rest (fun _ _ _ => CQ.mono E fun _ _ h => h) _ _ hk
  rcases hnv with rfl | ⟨rfl, rfl⟩ <;> exact hk'

/-- An operation whose value nobody wants (a store). -/
theorem AO.op0 {ops : Array Oper} {rest : List Nat} {op : Op} {T : TypeId} {pos : String} {after : Array Edge} {g : Option (Nat × Bool)} {e : Env} {ds : List ADef} {A A' : List Chunk} {av : AV}
    (hn : isDefer op = false) (h : OpR P ⟨none, op, T, pos, after, g⟩ e A av A')
    (k : AR P ro N ops Q rest ⟨e, ds, A'⟩) : AO P ro N ops Q rest ⟨none, op, T, pos, after, g⟩ ⟨e, ds, A⟩ := fun F I w a hI hS => by
  obtain ⟨n, v, w', I', hrun, hnv, E, hI', hv⟩ := h F I w a.eval hI hS.op
  have hk := k F I' w' a hI' ⟨hS.size, (hS.mono E).env, (hS.mono E).ds⟩
  refine ⟨fun _ _ => fence_fn _, ?_⟩
  rw [Oper.semAt_eq _ _ _ (not_defer hn), hrun]
  have hk' : wpOpsIn (fence ro) 0 P ops (CQ N F I w Q) rest a w' := wpOpsIn_mono' rest (fun _ _ _ => CQ.mono E fun _ _ h => h) _ _ hk
  rcases hnv with rfl | ⟨rfl, rfl⟩ <;> exact hk'

/-! ### Calls -/

/-- How a call ends. -/
inductive AE where
  | ret (v : AV)
  | pan (chain : List PanicEntry)

def RelE (I : Info) (w : World) : AE → Ending → Prop
  | .ret av, .returned v => Rel I w av v
  | .pan c, .panicked c' => c = c'
  | _, _ => False

/-- A function's contract: from the chunks that it touches, to what it comes to. -/
def ACalls (P : Program) (f : FuncId) (args : List AV) (A : List Chunk) (R : AE → List Chunk → Prop) : Prop :=
  ∀ F I w vs, Inv I (A ++ F) w → RelL I w args vs → Calls P f vs.toArray w fun e w' => ∃ I' ae A', Ext I w I' w' ∧ Inv I' (A' ++ F) w' ∧ RelE I' w' ae e ∧ R ae A'

/-- What it comes to where it only answers. -/
def Ret (v : AV) (A : List Chunk) : AE → List Chunk → Prop := fun e A' => e = .ret v ∧ A' = A

theorem ACalls.mono {f : FuncId} {args : List AV} {A : List Chunk} {R R' : AE → List Chunk → Prop} (h : ACalls P f args A R) (hr : ∀ e A', R e A' → R' e A') : ACalls P f args A R' :=
  fun F I w vs hI hv => (h F I w vs hI hv).mono fun e w' ⟨I', ae, A', h1, h2, h3, h4⟩ => ⟨I', ae, A', h1, h2, h3, hr _ _ h4⟩

/-- What a call leaves alone may stand beside it. -/
theorem ACalls.frame {f : FuncId} {args : List AV} {A : List Chunk} {R : AE → List Chunk → Prop} (h : ACalls P f args A R) (B : List Chunk) :
    ACalls P f args (A ++ B) (fun e A' => ∃ A1, R e A1 ∧ A' = A1 ++ B) := fun F I w vs hI hv =>
  (h (B ++ F) I w vs (by rw [← List.append_assoc]; exact hI) hv).mono fun e w' ⟨I', ae, A', h1, h2, h3, h4⟩ => ⟨I', ae, A' ++ B, h1, by rw [List.append_assoc]; exact h2, h3, A', h4, rfl⟩

theorem ACalls.perm {f : FuncId} {args : List AV} {A B : List Chunk} {R : AE → List Chunk → Prop} (h : ACalls P f args A R) (p : B.Perm A) : ACalls P f args B R := fun F I w vs hI hv =>
  h F I w vs (hI.perm (p.append_right F)) hv

/-- A call of a function that has a body. -/
theorem AO.call {ops : Array Oper} {rest : List Nat} {d : Nat} {f : FuncId} {args : Array Operand} {argTypes : Array TypeId} {T : TypeId} {pos : String} {after : Array Edge} {g : Option (Nat × Bool)} {e : Env} {ds : List ADef} {A A1 : List Chunk} (B : List Chunk)
    {R : AE → List Chunk → Prop} {avs : List AV} (hd : Nat.blt d N = true) (hf : ∀ args w, (callFunc f args).run P w = .ok (.enter f args) w) (ha : args.toList.map (opv e) = avs)
    (h : ACalls P f avs A1 R) (p : A.Perm (A1 ++ B)) (k : ∀ av A', R (.ret av) A' → AR P ro N ops Q rest ⟨(d, av) :: e, ds, A' ++ B⟩)
    (kp : ∀ c A', R (.pan c) A' → Q (.panic c) ⟨e, ds, A' ++ B⟩) :
    AO P ro N ops Q rest ⟨some d, .call ⟨.value (.func f), args, argTypes⟩, T, pos, after, g⟩ ⟨e, ds, A⟩ := fun F I w a hI hS => by
  have hS' := hS
  have hrl : RelL I w avs (args.toList.map a.eval) := by
    rw [← ha]; exact RelL.map _ _ _ fun x _ => hS'.op x
  refine ⟨fun _ _ => fence_fn _, ?_⟩
  have hex : (Oper.semAt (fence ro).round a.eval ⟨some d, .call ⟨.value (.func f), args, argTypes⟩, T, pos, after, g⟩).run P w = .ok (.enter f (args.map a.eval)) w := by
    rw [Oper.semAt_eq _ _ _ (fun c h => by cases h)]
    simp only [execOp, resolve, Act.eval, Deferred.ofValue, Sem.run_bind, Sem.run_pure, Result.andThen_ok, invoke]
    simp only [Array.empty_append, Array.append_empty]
    exact hf _ _
  rw [hex]
  refine ⟨fence_n, callsIn_wide'.2 ?_⟩
  have hI2 : Inv I (A1 ++ (B ++ F)) w := by rw [← List.append_assoc]; exact hI.perm (p.append_right F)
  have hc := h (B ++ F) I w _ hI2 hrl
  have he : (args.toList.map a.eval).toArray = args.map a.eval := by apply Array.ext'; simp
  rw [he] at hc
  refine hc.mono fun en w' ⟨I', ae, A', E, hI', hre, hR⟩ => ?_
  have hI3 : Inv I' ((A' ++ B) ++ F) w' := by rw [List.append_assoc]; exact hI'
  cases en with
  | returned v =>
    cases ae with
    | ret av =>
      have hk := k av A' hR F I' w' (a.put (some d) v) hI3 ((hS.mono E).put (Nat.le_of_ble_eq_true hd) hre _)
      exact wpOpsIn_mono' rest (fun _ _ _ => CQ.mono E fun _ _ h => h) _ _ hk
    | pan c => exact hre.elim
  | panicked c =>
    cases ae with
    | ret av => exact hre.elim
    | pan c' =>
      cases hre
      exact ⟨I', ⟨e, ds, A' ++ B⟩, E, hI3, ⟨hS.size, (hS.mono E).env, (hS.mono E).ds⟩, kp _ A' hR⟩
  | outgrown => cases ae <;> exact hre.elim
where
  callsIn_wide' {ro : Option Nat} {P : Program} {n : Nat} {f : FuncId} {args : Array Value} {w : World} {R : Ending → World → Prop} : CallsIn (fence ro) n P f args w R ↔ Calls P f args w R :=
    ⟨fun h => (callsIn_wide (n := n)).1 h, fun h => (callsIn_wide (n := n)).2 h⟩

/-! ### Bodies -/

def argEnv : Nat → List AV → Env
  | _, [] => []
  | i, a :: r => (i, a) :: argEnv (i + 1) r

theorem ev_argEnv (args : List AV) (i t : Nat) : ev (argEnv i args) t = if i ≤ t then args.getD (t - i) .any else .any := by
  induction args generalizing i with
  | nil => simp [argEnv, ev]
  | cons a r ih =>
    simp only [argEnv, ev]
    cases hb : Nat.beq i t with
    | true =>
      have := Nat.eq_of_beq_eq_true hb
      subst this
      simp
    | false =>
      have hne : i ≠ t := fun e => by rw [e, Nat.beq_refl] at hb; cases hb
      simp only [ih]
      by_cases h : i ≤ t
      · rw [if_pos (by omega), if_pos h, show t - i = (t - (i + 1)) + 1 by omega]
        simp
      · rw [if_neg (by omega), if_neg h]

/-- What the results read as, once the body has been left. -/
def ResV (P : Program) (fn : Func) (N : Nat) (s : St) (av : AV) : Prop :=
  ∀ F I w a, Inv I (s.A ++ F) w → RelS N I w s a → ∃ v, (results fn a.tmps).run P w = .ok v w ∧ Rel I w av v

def RetPost (P : Program) (fn : Func) (N : Nat) (R : AE → List Chunk → Prop) : Post
  | .normal, s | .ret, s => s.ds = [] ∧ ∃ av A', ResV P fn N s av ∧ Sub A' s.A ∧ R (.ret av) A'
  | .panic c, s => s.ds = [] ∧ ∃ A', Sub A' s.A ∧ R (.pan c) A'
  | _, _ => False

theorem RelDs.nil_inv {I : Info} {w : World} {ds : List Deferred} (h : RelDs I w [] ds) : ds = [] := by cases h; rfl

theorem ACalls.of_body {f : FuncId} {fn : Func} {c : Code} {args : List AV} {A : List Chunk} {R : AE → List Chunk → Prop} (hf : P.funcs[f]? = some fn) (hb : fn.body = some c) (hl : Nat.ble args.length fn.ntmps = true)
    (h : AW P none fn.ntmps c (RetPost P fn fn.ntmps R) ⟨argEnv 0 args, [], A⟩) : ACalls P f args A R := fun F I w vs hI hv => by
  refine (callsIn_wide (n := 0)).1 (callsIn_of_wp (F := Fence.wide) hf hb trivial ?_)
  have hl' : args.length ≤ fn.ntmps := Nat.le_of_ble_eq_true hl
  refine wpIn_mono (h F I w _ hI ⟨?_, fun t => ?_, .nil⟩) fun e a w' hq => ?_
  · simp [hv.1]; omega
  · rw [ev_argEnv]
    simp only [Nat.zero_le, if_true, Nat.sub_zero]
    by_cases ht : t < args.length
    · have := hv.2 t ht
      have hx : t < vs.length := by rw [hv.1]; exact ht
      rw [show args.getD t .any = args[t] by simp [List.getD, ht]]
      have e1 : (vs.toArray ++ Array.replicate (fn.ntmps - vs.toArray.size) undef).getD t undef = vs.getD t undef := by
        rw [Array.getD_eq_getD_getElem?, Array.getElem?_append_left (by simpa using hx)]
        simp [List.getD]
      rw [e1]; exact this
    · rw [show args.getD t .any = .any by simp [List.getD, List.getElem?_eq_none (Nat.le_of_not_lt ht)]]
      exact .any _
  · obtain ⟨I', s', E, hI', hS', hq⟩ := hq
    cases e with
    | normal =>
      obtain ⟨hds, av, A', hres, hsub, hR⟩ := hq
      obtain ⟨v, hrun, hv⟩ := hres F I' w' a hI' hS'
      refine ⟨RelDs.nil_inv (hds ▸ hS'.ds), v, hrun, I', .ret av, A', E, hsub.inv hI', hv, hR⟩
    | ret =>
      obtain ⟨hds, av, A', hres, hsub, hR⟩ := hq
      obtain ⟨v, hrun, hv⟩ := hres F I' w' a hI' hS'
      refine ⟨RelDs.nil_inv (hds ▸ hS'.ds), v, hrun, I', .ret av, A', E, hsub.inv hI', hv, hR⟩
    | panic c =>
      obtain ⟨hds, A', hsub, hR⟩ := hq
      exact ⟨RelDs.nil_inv (hds ▸ hS'.ds), I', .pan c, A', E, hsub.inv hI', rfl, hR⟩
    | exit id => exact hq.elim
    | goto l => exact hq.elim
    | outgrown => exact hq.elim

theorem ResV.oneW {fn : Func} {t : Nat} {e : Env} {ds : List ADef} {A : List Chunk} {av : AV} (hr : fn.results = #[.tmp t]) (h : Wv (ev e t) av) : ResV P fn N ⟨e, ds, A⟩ av := fun F I w a hI hS =>
  ⟨a.tmps.getD t undef, by simp [results, hr], h.rel (hS.env t)⟩
theorem ResV.noneW {fn : Func} {e : Env} {ds : List ADef} {A : List Chunk} (hr : fn.results = #[]) : ResV P fn N ⟨e, ds, A⟩ (.tup []) := fun F I w a hI hS =>
  ⟨.tuple #[], by simp [results, hr], .tup [] [] rfl fun j h => absurd h (Nat.not_lt_zero _)⟩
theorem ResV.twoW {fn : Func} {t u : Nat} {e : Env} {ds : List ADef} {A : List Chunk} {av bv : AV} (hr : fn.results = #[.tmp t, .tmp u]) (h : Wv (ev e t) av) (h2 : Wv (ev e u) bv) : ResV P fn N ⟨e, ds, A⟩ (.tup [av, bv]) := fun F I w a hI hS =>
  ⟨.tuple #[a.tmps.getD t undef, a.tmps.getD u undef], by simp [results, hr], .tup _ [_, _] rfl (RelL.cons (h.rel (hS.env t)) (RelL.cons (h2.rel (hS.env u)) RelL.nil)).2⟩
theorem ResV.threeW {fn : Func} {t u z : Nat} {e : Env} {ds : List ADef} {A : List Chunk} {av bv cv : AV} (hr : fn.results = #[.tmp t, .tmp u, .tmp z]) (h : Wv (ev e t) av) (h2 : Wv (ev e u) bv) (h3 : Wv (ev e z) cv) : ResV P fn N ⟨e, ds, A⟩ (.tup [av, bv, cv]) := fun F I w a hI hS =>
  ⟨.tuple #[a.tmps.getD t undef, a.tmps.getD u undef, a.tmps.getD z undef], by simp [results, hr], .tup _ [_, _, _] rfl (RelL.cons (h.rel (hS.env t)) (RelL.cons (h2.rel (hS.env u)) (RelL.cons (h3.rel (hS.env z)) RelL.nil))).2⟩
theorem ResV.none {fn : Func} {e : Env} {ds : List ADef} {A : List Chunk} (hr : fn.results = #[]) : ResV P fn N ⟨e, ds, A⟩ (.tup []) := ResV.noneW hr
theorem ResV.one {fn : Func} {t : Nat} {e : Env} {ds : List ADef} {A : List Chunk} {av : AV} (hr : fn.results = #[.tmp t]) (h : ev e t = av) : ResV P fn N ⟨e, ds, A⟩ av := ResV.oneW hr (h ▸ .refl _)
theorem ResV.two {fn : Func} {t u : Nat} {e : Env} {ds : List ADef} {A : List Chunk} {av bv : AV} (hr : fn.results = #[.tmp t, .tmp u]) (h : ev e t = av) (h2 : ev e u = bv) : ResV P fn N ⟨e, ds, A⟩ (.tup [av, bv]) := ResV.twoW hr (h ▸ .refl _) (h2 ▸ .refl _)
theorem ResV.three {fn : Func} {t u z : Nat} {e : Env} {ds : List ADef} {A : List Chunk} {av bv cv : AV} (hr : fn.results = #[.tmp t, .tmp u, .tmp z]) (h : ev e t = av) (h2 : ev e u = bv) (h3 : ev e z = cv) : ResV P fn N ⟨e, ds, A⟩ (.tup [av, bv, cv]) := ResV.threeW hr (h ▸ .refl _) (h2 ▸ .refl _) (h3 ▸ .refl _)
end
end Go.Av
