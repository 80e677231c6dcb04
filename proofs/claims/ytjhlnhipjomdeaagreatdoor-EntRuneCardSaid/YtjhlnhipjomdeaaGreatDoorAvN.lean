/-
  Nil slices that may grow from now on, within a region; new objects that know their kind. No program is spoken of.
-/
import Derived.Test.YtjhlnhipjomdeaaGreatDoorAvE
set_option linter.unusedVariables false
set_option linter.unusedSimpArgs false
namespace Go.Av
open Go.RowKit Go.Pv

section
variable {P : Program} {ro : Option Nat} {N : Nat} {Q : Post} {ops : Array Oper} {l : List Nat} {e : Env} {ds : List ADef} {A : List Chunk}

theorem Inv.nil_objAt {I : Info} {w : World} {F : List Chunk} {o : Nat} {cs : List AV} (hI : Inv I (A ++ F) w) (i j k : Nat) (Ty : TypeId) (hA : A[i]? = some (.obj o cs)) (hj : cs[j]? = some (.v (.slice none 0 0))) :
    ∃ t I', Ext I w I' w ∧ Inv I' ((.tok t Ty :: A.set i (.obj o (cs.set j (.sl k [] (some t))))) ++ F) w := by
  obtain ⟨I', t, E, hI'⟩ := Inv.nil_row (hI.take_at hA) j k Ty hj
  refine ⟨t, I', E, hI'.perm ?_⟩
  exact (((perm_set A i _ (.obj o (cs.set j (.sl k [] (some t)))) hA)).append_right F).cons _

theorem AR.nil_objAt {o : Nat} {cs : List AV} (i j k : Nat) (Ty : TypeId) (hA : A[i]? = some (.obj o cs)) (hj : cs[j]? = some (.v (.slice none 0 0)))
    (h : ∀ t, AR P ro N ops Q l ⟨e, ds, .tok t Ty :: A.set i (.obj o (cs.set j (.sl k [] (some t))))⟩) : AR P ro N ops Q l ⟨e, ds, A⟩ := fun F I w a hI hS => by
  obtain ⟨t, I', E, hI'⟩ := Inv.nil_objAt hI i j k Ty hA hj
  exact wpOpsIn_mono' l (fun _ _ _ => CQ.mono E fun _ _ h => h) _ _ (h t F I' w a hI' ⟨hS.size, (hS.mono E).env, (hS.mono E).ds⟩)
end

section
variable {P : Program} {e : Env} {d : Option Nat} {T : TypeId} {pos : String} {after : Array Edge} {g : Option (Nat × Bool)} {x : Operand} {A : List Chunk}
theorem opX_boxT {a : AV} {T2 : TypeId} (hx : opv e x = a) (hc : isCell a = true ∨ ∃ cs, a = .agg cs) : OpX P ⟨d, .box T x, T2, pos, after, g⟩ e A (fun av A' => ∃ o, av = .pt o 0 ∧ A' = .obj o (cellsOf a) :: .ty o T :: A) := fun F I w ρ hI hρ => by
  have hv := hx ▸ hρ x
  obtain ⟨o, ho⟩ := hI.fresh_obj
  have hrl := rel_cells hv hc
  have hI' := hI.alloc_obj ho T hrl
  have hty : (Chunk.ty o T).Holds (I.putObj o w.heap.size) (w.alloc (.cells (ρ x).cells.toList.toArray T)) := ⟨w.heap.size, by simp [Info.putObj], _, _, heap_alloc_eq _ _⟩
  have hI2 : Inv (I.putObj o w.heap.size) (.ty o T :: .obj o (cellsOf a) :: (A ++ F)) (w.alloc (.cells (ρ x).cells.toList.toArray T)) := Inv.cons hI' hty (fun b hb => by cases hb)
  refine ⟨_, .pointer (some ⟨w.heap.size, 0, none⟩), _, _, _, _, ?_, .inl rfl, hI.new_obj ho _, hI2.perm (List.Perm.swap _ _ _), .pt o 0 _ (by simp [Info.putObj]), o, rfl, rfl⟩
  simp only [execOp, Instr.box, newVar, newRow, Sem.run_bind, Sem.run_pure, run_newObj_alloc, Result.andThen_ok]

def isAgg : AV → Bool
  | .agg _ => true
  | _ => false
theorem isAgg_s {a : AV} (h : isAgg a = true) : ∃ cs, a = .agg cs := by
  cases a <;> first | exact ⟨_, rfl⟩ | cases h
/-- May these parts be laid into a struct? -/
def okParts (e : Env) (parts : List (Nat × Operand)) : Bool := parts.all fun p => isCell (opv e p.2) || isAgg (opv e p.2)
theorem g_build {parts : Array (Nat × Operand)} {zs : List Value} {ps : List (Nat × Nat)} {cs : List AV} {T2 : TypeId} (hi : structInfo P T = some (zs, ps))
    (hok : okParts e parts.toList = true) (hf : fillA ps (zs.map .v) (parts.toList.map fun p => (p.1, opv e p.2)) = some cs) : OpS P ⟨d, .build T parts, T2, pos, after, g⟩ e (.agg cs) :=
  opS_build hi (fun p hp => by
    have h := List.all_eq_true.1 hok p hp
    cases hc : isCell (opv e p.2) with
    | true => exact .inl rfl
    | false => rw [hc, Bool.false_or] at h; exact .inr (isAgg_s h)) hf
end

/-! One operation that may come now, under a guard -/
section
variable {P : Program} {N : Nat} {Q : Post} {ops : Array Oper}
theorem AI.gone {fuel : Nat} {listed : Array Bool} {i j t : Nat} {o : Oper} {want b : Bool} {s : St} (hr : Region.ready .any ops listed = [i]) (ho : ops[i]? = some o) (hg : o.guard = some (j, want))
    (hj : (ops[j]?).bind (·.dst) = some t) (hb : ev s.env t = .v (.bool b)) (ht : Nat.blt t N = true) (hw : b = want)
    (h : AIO P N ops Q fuel (listed.setIfInBounds i true) o s) : AI P N ops Q (fuel + 1) listed s := fun F I0 w0 I w a E hI hS => by
  refine ⟨fun h0 => (by rw [hr] at h0; cases h0), fun k hk => ?_⟩
  rw [hr] at hk
  simp at hk
  subst hk
  obtain ⟨e, ds, A⟩ := s
  have hy := yielded_v (ops := ops) hS hj hb ht
  have hwant : Region.wanted o (yielded ops a.tmps) = true := by simp only [Region.wanted, hg, hy, hw]; cases want <;> rfl
  unfold Go.wpOp
  simp only [ho, hwant, if_true]
  exact .inl (h F I0 w0 I w a E hI hS)
theorem AI.gone_skip {fuel : Nat} {listed : Array Bool} {i j t d : Nat} {o : Oper} {want b : Bool} {e : Env} {ds : List ADef} {A : List Chunk} (hr : Region.ready .any ops listed = [i]) (ho : ops[i]? = some o) (hg : o.guard = some (j, want)) (hod : o.dst = some d) (hd : Nat.blt d N = true)
    (hj : (ops[j]?).bind (·.dst) = some t) (hb : ev e t = .v (.bool b)) (ht : Nat.blt t N = true) (hw : b = !want)
    (h : AI P N ops Q fuel (listed.setIfInBounds i true) ⟨(d, .v undef) :: e, ds, A⟩) : AI P N ops Q (fuel + 1) listed ⟨e, ds, A⟩ := fun F I0 w0 I w a E hI hS => by
  refine ⟨fun h0 => (by rw [hr] at h0; cases h0), fun k hk => ?_⟩
  rw [hr] at hk
  simp at hk
  subst hk
  have hy := yielded_v (ops := ops) hS hj hb ht
  have hwant : Region.wanted o (yielded ops a.tmps) = false := by simp only [Region.wanted, hg, hy, hw]; cases want <;> rfl
  unfold Go.wpOp
  simp only [ho, hwant, Bool.false_eq_true, if_false, hod]
  exact ⟨I, Ext.refl _ _, h F I0 w0 I w _ E hI (hS.put (Nat.le_of_ble_eq_true hd) (.v _) A)⟩
/-- As AR.meet, where the order is open. -/
theorem AI.meet {e : Env} {ds : List ADef} {A : List Chunk} {fuel0 : Nat} {listed0 : Array Bool} (fuel : Nat) (listed : Array Bool) (d : Nat) (av : AV)
    (k : (∀ (r : Env) (m : Nat), r.drop m = e → fresh ((r.take m).map Prod.fst) e = true → AI P N ops Q fuel listed ⟨(d, av) :: r, ds, A⟩) → AI P N ops Q fuel0 listed0 ⟨e, ds, A⟩)
    (h : AI P N ops Q fuel listed ⟨(d, av) :: e, ds, A⟩) : AI P N ops Q fuel0 listed0 ⟨e, ds, A⟩ :=
  k fun r m hr hf => fun F I0 w0 I w a E hI hS => h F I0 w0 I w a E hI ⟨hS.size, fun t => by
    have ht := hS.env t
    have hre : r = r.take m ++ e := by rw [← hr, List.take_append_drop]
    generalize r.take m = pre at hf hre
    subst hre
    simp only [ev] at ht ⊢
    cases hb : Nat.beq d t with
    | true => rw [hb] at ht; exact ht
    | false =>
      rw [hb] at ht
      simp only at ht ⊢
      by_cases hm : ∃ p ∈ pre, p.1 = t
      · obtain ⟨p, hp, rfl⟩ := hm
        have : ev e p.1 = .any := by
          clear ht hS hI h k hr
          induction e with
          | nil => rfl
          | cons q e ih =>
            obtain ⟨j, b⟩ := q
            simp only [fresh, List.all_cons, Bool.and_eq_true, Bool.not_eq_true'] at hf
            have hj : j ≠ p.1 := fun e => by
              have := hf.1
              rw [e] at this
              have h2 : (pre.map Prod.fst).contains p.1 = true := by simpa using ⟨p.2, hp⟩
              rw [h2] at this; cases this
            simp only [ev]
            have hb : Nat.beq j p.1 = false := by
              cases hb : Nat.beq j p.1 with
              | false => rfl
              | true => exact absurd (Nat.eq_of_beq_eq_true hb) hj
            rw [hb]
            exact ih hf.2
        rw [this]; exact .any _
      · rw [← ev_append_fresh pre t (fun p hp e => hm ⟨p, hp, e⟩)]; exact ht, hS.ds⟩
end
end Go.Av
