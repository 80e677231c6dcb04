/-
  From a row that lists variables to content: what the listed variables hold when a call begins. No program is spoken of.
-/
import Derived.Test.YtjhlnhipjomdeaaGreatDoorAvLaw
import Derived.ProofKit
import Derived.HandedShaped
import Derived.Shelf.Vars
import Derived.LaidLaws
import Derived.LaidMore
import Derived.Stop.Joined
import Derived.MakeChecks
set_option linter.unusedVariables false
set_option linter.unusedSimpArgs false
namespace Go.Av
open Go.RowKit

section
variable {H : Type} {enc : TypeId × Value → H}
/-- As the wrap for rows that list variables, with the world's shape kept. -/
theorem returns_and_shaped {a : Assume} {C : Checked} {os : Os} {f : FuncId} {fn : Func} {s : ChangeSpec} {conds : List PathCond} {apart fresh handsOn again : Bool} {X : World → Array Value → Prop}
    (hX : ∀ (w w' : World) (args : Array Value), w.heap = w'.heap → X w args → X w' args)
    (own : ownKnob C.prog.godebug = none) (started : os.Started) (noInit : C.prog.inits.idxOf? f = none) (hfn : C.prog.funcs[f]? = some fn)
    (witness : ∃ (w : World) (tape : Tape) (i : Input), w.os = os ∧ (w.forCall tape i).Shaped C.prog ∧ i.vars = [] ∧ Input.okWide C.prog (w.forCall tape i) .any w.heap.size f i ∧
      ((s.pre enc C.prog fn conds apart (w.forCall tape i).memory i.args ∧ X (w.forCall tape i).memory i.args) ∧ sizedMet enc C.prog fn (OpenSpec.ofChange s) apart (w.forCall tape i).memory i.args) ∧ a.holds C.prog (lone (Frame.enter C.prog f i.args .normal) [] (w.forCall tape i)))
    (contract : ∀ (W : World) (base : Nat) (args : Array Value) (ds gs : List (DataW H)) (before : List MemPlace),
      (∀ (j : Nat) t v, fn.params[j]? = some t → args[j]? = some v → Value.okWide C.prog W .any base t v) →
      DataW.Whole enc C.prog fn.params.toList s.vars apart W args.toList ds gs before →
      W.ShapedOpen C.prog → X W args →
      Calls C.prog f args W fun e W' => ∃ v, e = .returned v ∧ s.post enc C.prog fn apart fresh handsOn again W args v W') :
    ReturnsInHanded a C os f .any (fun w args => (s.pre enc C.prog fn conds apart w args ∧ X w args) ∧ sizedMet enc C.prog fn (OpenSpec.ofChange s) apart w args) (s.post enc C.prog fn apart fresh handsOn again) := by
  refine returnsInHanded_of_calls own started noInit witness ?_
  intro w tape i _ hsh _ hok hpre hholds
  obtain ⟨_, _, _, fn', hfn', _, _, _, _, hval⟩ := hok
  have e : fn' = fn := Option.some.inj (hfn'.symm.trans hfn)
  subst e
  obtain ⟨⟨⟨ds, gs, before, hw, hc⟩, hx⟩, hz⟩ := hpre
  have hw' := DataW.Whole.of_heap (w' := w.forCall tape i) (by rfl) hw
  refine (contract (w.forCall tape i) w.heap.size i.args ds gs before hval hw' hsh (hX _ _ _ (by rfl) hx)).mono fun e W' ⟨v, he, hp⟩ => ?_
  subst he
  exact ChangeSpec.post_blind hp
end

theorem laid_mem {P : Program} {w : World} {n : String} {d : DataW Unit} : ∀ {l : List (String × DataW Unit)} {ps : List MemPlace}, DataW.LaidVars P w l ps → (n, d) ∈ l →
    ∃ g t cs fuel p, P.globalNamed n = some g ∧ (P.globals[g]?).map (·.type) = some t ∧ w.var? P n = some cs ∧ DataW.trod (fun _ => ()) P w 0 (fun _ => true) false fuel t cs.toList = some (d, p)
  | [], _, _, hm => by cases hm
  | (n', d') :: r, ps, h, hm => by
    obtain ⟨g, t, cs, fuel, p, q, h1, h2, h3, h4, h5, _⟩ := h
    rcases List.mem_cons.1 hm with hm | hm
    · cases hm; exact ⟨g, t, cs, fuel, p, h1, h2, h3, h4⟩
    · exact laid_mem h5 hm

theorem iface_of_trod {H : Type} {tok : TypeId × Value → H} {P : Program} {w : World} {base : Nat} {fits : Nat → Bool} {b : Bool} {fuel t : Nat} {vs : List Value} {r : DataW H × List MemPlace} {ms : Array (String × TypeId)} (hT : P.underlying t = some (.interface ms))
    (h : DataW.trod tok P w base fits b fuel t vs = some r) : vs = [.nilIface] ∨ ∃ u v, vs = [.iface u v] := by
  cases fuel with
  | zero => simp [DataW.trod] at h
  | succ n =>
    unfold DataW.trod at h
    rw [hT] at h
    split at h <;> first | (exact .inl rfl) | (exact .inr ⟨_, _, rfl⟩) | simp_all

/-- A listed variable of an interface type holds a value of one. -/
theorem laid_iface {P : Program} {w : World} {l : List (String × DataW Unit)} {n : String} {d : DataW Unit} {g t : Nat} {ms : Array (String × TypeId)} (h : laidMet P l w) (hm : (n, d) ∈ l) (hg : P.globalNamed n = some g) (ht : (P.globals[g]?).map (·.type) = some t) (hT : P.underlying t = some (.interface ms)) : ∃ v, w.cell? ⟨g, 0, none⟩ = some v ∧ (v = .nilIface ∨ ∃ u y, v = .iface u y) := by
  obtain ⟨ps, hl, _, _⟩ := h
  obtain ⟨g', t', cs, fuel, p, h1, h2, h3, h4⟩ := laid_mem hl hm
  obtain rfl := Option.some.inj (hg.symm.trans h1)
  obtain rfl := Option.some.inj (ht.symm.trans h2)
  have hc := World.var?_cell hg h3 0
  rcases iface_of_trod hT h4 with h5 | ⟨u, v, h5⟩
  · exact ⟨.nilIface, by rw [hc]; have := congrArg (·[0]?) h5; simpa using this, .inl rfl⟩
  · exact ⟨.iface u v, by rw [hc]; have := congrArg (·[0]?) h5; simpa using this, .inr ⟨u, v, rfl⟩⟩

/-- A variable of one cell, as content. -/
theorem rel_var {w : World} {g : Nat} {v : Value} {c : AV} (h : w.cell? ⟨g, 0, none⟩ = some v) (hr : Rel (Info.start w) w c v) : Rel (Info.start w) w (.cp [c]) (.pointer (some ⟨g, 0, none⟩)) := by
  refine .cp [c] g 0 (fun _ => v) (stab_start (cell_lt h).1) (fun j hj => ?_) (fun j hj => ?_)
  · have : j = 0 := by simpa using hj
    subst this; exact h
  · have : j = 0 := by simpa using hj
    subst this; exact hr
theorem rel_anyi {I : Info} {w : World} {v : Value} (h : v = .nilIface ∨ ∃ u y, v = .iface u y) : Rel I w .anyi v := by
  rcases h with rfl | ⟨u, y, rfl⟩
  · exact .anyi0
  · exact .anyi1 u y
end Go.Av
