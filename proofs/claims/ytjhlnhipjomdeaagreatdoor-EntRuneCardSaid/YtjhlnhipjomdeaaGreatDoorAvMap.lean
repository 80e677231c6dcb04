/-
  Maps of texts to numbers that are made of constants, and looked up. No program is spoken of.
-/
import Derived.Test.YtjhlnhipjomdeaaGreatDoorAvH
import Derived.MapKept
set_option linter.unusedVariables false
set_option linter.unusedSimpArgs false
namespace Go.Av
open Go.RowKit Go.Pv Go.MapKept

/-- A map of texts to numbers of a kind. -/
def mpI (k : IntKind) (es : List (List UInt8 × Int)) : AV := .mp (es.map fun p => (p.1, .int k p.2))

section
variable {P : Program} {ro : Option Nat} {N : Nat} {Q : Post} {ops : Array Oper} {i : Nat} {rest : List Nat} {e : Env} {ds : List ADef} {A : List Chunk}
  {T : TypeId} {pos : String} {after : Array Edge} {k : IntKind}

/-- The rest of a region, where a map in t holds es so far. -/
def AM (P : Program) (ro : Option Nat) (N : Nat) (ops : Array Oper) (Q : Post) (l : List Nat) (t : Nat) (k : IntKind) (es : List (List UInt8 × Int)) (s : St) : Prop :=
  ∀ F I w a r, Inv I (s.A ++ F) w → RelS N I w s a → a.tmps.getD t undef = .map (some r) → I.ext r = some 0 → (∀ c ∈ s.A ++ F, c.blk I ≠ some r) →
    (∃ ents c, w.heap[r]? = some (.map ents c) ∧ ents.toList.map (fun x => (x.key, x.val)) = es.map fun p => (.string ⟨p.1.toArray⟩, .int k p.2)) → wpOpsIn (fence ro) 0 P ops (CQ N F I w Q) l a w

theorem AM.make {d T2 : Nat} (ho : ops[i]? = some ⟨some d, .makeMap T none, T2, pos, after, none⟩) (hd : Nat.blt d N = true) (h : AM P ro N ops Q rest d k [] ⟨(d, .any) :: e, ds, A⟩) : AR P ro N ops Q (i :: rest) ⟨e, ds, A⟩ := by
  refine AR.run ho rfl fun F I w a hI hS => ?_
  have hdN : d < N := Nat.le_of_ble_eq_true hd
  have X := hI.new_still (.map #[] 0)
  have X2 : Ext I w I (w.alloc (.map #[] 0)) := by
    refine ⟨rfl, rfl, rfl, by simp, fun b hb => ?_, fun b j hj => ?_, fun _ _ h => h, fun _ _ h => h, fun _ _ h => h, fun _ _ h => h.alloc _⟩
    · have hne : b ≠ w.heap.size := fun e => by rw [e, hI.fresh _ (Nat.le_refl _)] at hb; cases hb
      exact ⟨heap_alloc_ne _ _ _ hne, hb⟩
    · refine cell_alloc_ne _ _ _ _ fun e => ?_
      have := hj 0 (by rw [e]; exact hI.fresh _ (Nat.le_refl _))
      omega
  have hlt : ∀ c ∈ A ++ F, ∀ b, c.blk I = some b → b ≠ w.heap.size := fun c hc b hb e => by
    have := (hI.holds c hc).blk_lt hb; omega
  have hI2 : Inv I (A ++ F) (w.alloc (.map #[] 0)) := hI.keep X2 (fun c hc b hb => ⟨heap_alloc_ne _ _ _ (hlt c hc b hb), rfl⟩) (fun b hb => hI.fresh b (by simp only [World.size_alloc] at hb; omega)) hI.ids
  refine ⟨fun _ _ => fence_fn _, ?_⟩
  rw [Oper.semAt_eq _ _ _ (fun c h => by cases h)]
  have hrun : (execOp a.eval ⟨some d, .makeMap T none, T2, pos, after, none⟩).run P w = .ok (.value (.map (some w.heap.size))) (w.alloc (.map #[] 0)) := by
    simp only [execOp, Option.map_none, Sem.run_bind, Result.andThen_ok, Sem.run_pure]
    rfl
  rw [hrun]
  have hS2 := (hS.mono X2).put hdN (av := .any) (v := .map (some w.heap.size)) (.any _) A
  have hk := h F I (w.alloc (.map #[] 0)) (a.put (some d) (.map (some w.heap.size))) w.heap.size hI2 hS2 (by
      have hs := hS.size
      simp only [Act.put, Array.getD_eq_getD_getElem?, Array.getElem?_setIfInBounds_self_of_lt (show d < a.tmps.size by omega), Option.getD_some]) (hI.fresh _ (Nat.le_refl _)) (fun c hc hb => hlt c hc _ hb rfl)
    ⟨#[], 0, heap_alloc_eq _ _, rfl⟩
  exact wpOpsIn_mono' rest (fun _ _ _ => CQ.mono X2 fun _ _ h => h) _ _ hk

theorem AM.insert {t T2 : Nat} {es : List (List UInt8 × Int)} {key : ByteArray} {s : List UInt8} {n : Int} {kt et : TypeId} (ho : ops[i]? = some ⟨none, .insert T (.tmp t) (.const (.string key)) (.const (.int k n)), T2, pos, after, none⟩)
    (hm : P.underlying T = some (.map kt et)) (hd : P.underlying kt = some .string) (hs : key.data.toList = s) (hn : (es.all fun p => !(p.1 == s)) = true)
    (h : AM P ro N ops Q rest t k (es ++ [(s, n)]) ⟨e, ds, A⟩) : AM P ro N ops Q (i :: rest) t k es ⟨e, ds, A⟩ := by
  intro F I w a r hI hS ht hr0 hrb hh
  obtain ⟨ents, c, hb, hes⟩ := hh
  have hkey : key = ⟨s.toArray⟩ := by cases key; simp at hs; subst hs; rfl
  have hks : ∀ x ∈ ents.toList, IsKey .string x.key := fun x hx => by
    have : (x.key, x.val) ∈ es.map fun p => (Value.string ⟨p.1.toArray⟩, Value.int k p.2) := by rw [← hes]; exact List.mem_map_of_mem hx
    obtain ⟨p, _, hp⟩ := List.mem_map.1 this
    simp only [Prod.mk.injEq] at hp
    rw [← hp.1]; trivial
  have hne : ∀ x ∈ ents.toList, x.key ≠ .string key := fun x hx e2 => by
    have : (x.key, x.val) ∈ es.map fun p => (Value.string ⟨p.1.toArray⟩, Value.int k p.2) := by rw [← hes]; exact List.mem_map_of_mem hx
    obtain ⟨p, hp, hpe⟩ := List.mem_map.1 this
    simp only [Prod.mk.injEq] at hpe
    have h2 := List.all_eq_true.1 hn p hp
    rw [e2, hkey] at hpe
    have h3 := hpe.1
    simp only [Value.string.injEq, ByteArray.mk.injEq] at h3
    have h4 : p.1 = s := by have := congrArg Array.toList h3; simpa using this
    simp [h4] at h2
  rcases findNow_spec (d := .string) (k := .string key) trivial ents.toList 0 hks with ⟨h1, _⟩ | ⟨j, x, _, h2, h3⟩
  · have hlt := (Array.getElem?_eq_some_iff.1 hb).1
    have hrun : (Oper.semAt (fence ro).round a.eval ⟨none, .insert T (.tmp t) (.const (.string key)) (.const (.int k n)), T2, pos, after, none⟩).run P w =
        .ok .skip { w with heap := w.heap.setIfInBounds r (.map (ents.push { key := .string key, val := .int k n, born := c }) (c + 1)) } := by
      rw [Oper.semAt_eq _ _ _ (fun c h => by cases h)]
      simp [execOp, Act.eval, ht, Instr.mapUpdate, run_underlying hm, MapKept.run_getObj_map hb, MapKept.run_checkKey (d := .string) (k := .string key) hd trivial, MapKept.run_findKey hd h1, MapKept.run_setObj_map _ hb, Result.andThen]
    have hset := heap_set (o' := .map (ents.push { key := .string key, val := .int k n, born := c }) (c + 1)) hb
    have X : Ext I w I { w with heap := w.heap.setIfInBounds r (.map (ents.push { key := .string key, val := .int k n, born := c }) (c + 1)) } := by
      refine ⟨rfl, rfl, rfl, by simp, fun b hb' => ?_, fun b j hj => ?_, fun _ _ h => h, fun _ _ h => h, fun _ _ h => h, fun b E hE => ?_⟩
      · have : b ≠ r := fun e => by rw [e, hr0] at hb'; cases hb'
        exact ⟨hset.2 b this, hb'⟩
      · have : b ≠ r := fun e => by have := hj 0 (by rw [e]; exact hr0); omega
        simp only [World.cell?, hset.2 b this]
      · by_cases e : b = r
        · subst e; obtain ⟨d, fz, hd⟩ := hE; rw [hb] at hd; cases hd
        · obtain ⟨d, fz, hd⟩ := hE; exact ⟨d, fz, (hset.2 b e).trans hd⟩
    have hI2 := hI.keep X (fun c hc b hb' => ⟨hset.2 b (fun e => hrb c hc (by rw [← e]; exact hb')), rfl⟩) (fun b hb' => hI.fresh b (by simpa using hb')) hI.ids
    have hk := h F I _ a r hI2 (hS.mono X) ht hr0 hrb ⟨_, _, hset.1, by simp [hes, hkey]⟩
    simp only [wpOpsIn, ho, Region.wanted, if_true]
    refine ⟨fun _ _ => fence_fn _, ?_⟩
    rw [hrun]
    exact wpOpsIn_mono' rest (fun _ _ _ => CQ.mono X fun _ _ h => h) _ _ hk
  · exact (hne x (by have := List.mem_of_getElem? h2; exact this) h3).elim

theorem AM.done {l : List Nat} {t : Nat} {es : List (List UInt8 × Int)} (h : AR P ro N ops Q l ⟨(t, mpI k es) :: e, ds, A⟩) : AM P ro N ops Q l t k es ⟨e, ds, A⟩ := by
  intro F I w a r hI hS ht hr0 hrb hh
  obtain ⟨ents, c, hb, hes⟩ := hh
  have X : Ext I w (I.still r) w := by
    refine ⟨rfl, rfl, rfl, Nat.le_refl _, fun b hb' => ⟨rfl, ?_⟩, fun _ _ _ => rfl, fun b n hn => ?_, fun _ _ h => h, fun _ _ h => h, fun _ _ h => h⟩
    · simp only [Info.still]; split
      · rfl
      · exact hb'
    · intro m hm
      simp only [Info.still] at hm
      split at hm
      · cases hm
      · exact hn m hm
  have hlt := (Array.getElem?_eq_some_iff.1 hb).1
  have hI2 : Inv (I.still r) (A ++ F) w := hI.keep X (fun c hc b hb' => ⟨rfl, by simp only [Info.still]; rw [if_neg (fun e => hrb c hc (by rw [← e]; exact hb'))]⟩) (fun b hb' => by simp only [Info.still]; rw [if_neg (by omega)]; exact hI.fresh b hb') hI.ids
  have hv : Rel (I.still r) w (mpI k es) (.map (some r)) := .mp _ r ents c hb (by simp [Info.still]) (by rw [hes]; simp)
  have hS2 := hS.mono X
  have hk := h F (I.still r) w a hI2 ⟨hS.size, fun j => by
    simp only [ev]
    cases hbq : Nat.beq t j with
    | false => exact hS2.env j
    | true => have := Nat.eq_of_beq_eq_true hbq; subst this; rw [ht]; exact hv, hS2.ds⟩
  exact wpOpsIn_mono' l (fun _ _ _ => CQ.mono X fun _ _ h => h) _ _ hk
end

/-- What a map says of a text. -/
def mget (es : List (List UInt8 × Int)) (s : List UInt8) : Int := (es.lookup s).getD 0
def mhas (es : List (List UInt8 × Int)) (s : List UInt8) : Bool := (es.lookup s).isSome

section
variable {P : Program} {e : Env} {d : Option Nat} {T : TypeId} {pos : String} {after : Array Edge} {g : Option (Nat × Bool)} {x y : Operand} {T2 : TypeId} {k : IntKind}
theorem lookup_core {es : List (List UInt8 × Int)} {s : List UInt8} {I : Info} {w : World} {v : Value} (h : Rel I w (mpI k es) v) {kt et : TypeId} (hm : P.underlying T = some (.map kt et)) (hd : P.underlying kt = some .string) (hz : ∀ w, (zeroValue et).run P w = .ok (.int k 0) w) :
    ∀ w', (∀ b, I.ext b = none → w'.heap[b]? = w.heap[b]?) → ∀ ok, (Instr.lookup T v (.string ⟨s.toArray⟩) ok).run P w' = .ok (if ok then .tuple #[.int k (mget es s), .bool (mhas es s)] else .int k (mget es s)) w' := by
  cases h with
  | mp _ r ents c hb hst he =>
    intro w' hw' ok
    have hb' : w'.heap[r]? = some (.map ents c) := (hw' r hst).trans hb
    have key : ∀ (es : List (List UInt8 × Int)) (l : List MapEntry) (i : Nat), l.map (fun x => (x.key, x.val)) = (es.map fun p => (p.1, Value.int k p.2)).map (fun p => (.string ⟨p.1.toArray⟩, p.2)) →
        ∃ j, Instr.findNow .string (.string ⟨s.toArray⟩) l i = some (match es.lookup s with | some n => some (j, .int k n) | none => none) := by
      intro es
      induction es with
      | nil => intro l i hl; simp at hl; subst hl; exact ⟨0, rfl⟩
      | cons p es ih =>
        intro l i hl
        cases l with
        | nil => simp at hl
        | cons x l =>
          simp only [List.map_cons, List.cons.injEq, Prod.mk.injEq] at hl
          obtain ⟨⟨hk1, hv1⟩, hl⟩ := hl
          have hsn : Instr.sameNow .string (.string ⟨s.toArray⟩) x.key = some (s == p.1) := by
            rw [hk1]
            show some ((⟨s.toArray⟩ : ByteArray) == ⟨p.1.toArray⟩) = _
            congr 1
            rw [Bool.eq_iff_iff, bytes_beq]
            simp
          cases hsp : (s == p.1) with
          | true =>
            refine ⟨i, ?_⟩
            simp only [Instr.findNow, hsn, hsp, List.lookup, hv1]
          | false =>
            obtain ⟨j, hj⟩ := ih l (i + 1) hl
            refine ⟨j, ?_⟩
            simp only [Instr.findNow, hsn, hsp, List.lookup, hj]
    obtain ⟨j, hj⟩ := key es ents.toList 0 he
    have hfk : (Instr.findKey kt (.string ⟨s.toArray⟩) ents.toList).run P w' = .ok _ w' := MapKept.run_findKey (d := .string) hd hj
    have hck : ∀ b, (Instr.checkKey b 10000 kt (.string ⟨s.toArray⟩)).run P w' = .ok () w' := fun b => MapKept.run_checkKey (d := .string) (k := .string ⟨s.toArray⟩) hd trivial b 9999
    simp only [Instr.lookup, Sem.run_bind, run_underlying hm, Result.andThen_ok, MapKept.run_getObj_map hb', Sem.run_pure, hck, hfk]
    unfold mget mhas
    cases es.lookup s with
    | none => simp [hz, Result.andThen]
    | some n => simp [Result.andThen]
theorem g_lookup {es : List (List UInt8 × Int)} {s : List UInt8} {kt et : TypeId} (hm : P.underlying T = some (.map kt et)) (hd : P.underlying kt = some .string) (hz : ∀ w, (zeroValue et).run P w = .ok (.int k 0) w) (hx : opv e x = mpI k es) (hy : opv e y = S s) :
    OpS P ⟨d, .lookup T x y false, T2, pos, after, g⟩ e (.v (.int k (mget es s))) := fun I w ρ hρ => by
  have h := hx ▸ hρ x
  have e2 := rel_v (hy ▸ hρ y)
  refine ⟨_, .v _, fun w' _ hw => ?_⟩
  simp only [execOp, e2, lookup_core h hm hd hz w' hw false, Sem.run_bind, Result.andThen_ok, Sem.run_pure]
  rfl
theorem g_lookup2 {es : List (List UInt8 × Int)} {s : List UInt8} {kt et : TypeId} (hm : P.underlying T = some (.map kt et)) (hd : P.underlying kt = some .string) (hz : ∀ w, (zeroValue et).run P w = .ok (.int k 0) w) (hx : opv e x = mpI k es) (hy : opv e y = S s) :
    OpS P ⟨d, .lookup T x y true, T2, pos, after, g⟩ e (.tup [.v (.int k (mget es s)), B (mhas es s)]) := fun I w ρ hρ => by
  have h := hx ▸ hρ x
  have e2 := rel_v (hy ▸ hρ y)
  refine ⟨.tuple #[.int k (mget es s), .bool (mhas es s)], .tup _ [_, _] rfl (RelL.cons (.v _) (RelL.cons (.v _) RelL.nil)).2, fun w' _ hw => ?_⟩
  simp only [execOp, e2, lookup_core h hm hd hz w' hw true, Sem.run_bind, Result.andThen_ok, Sem.run_pure]
  rfl
end
end Go.Av
