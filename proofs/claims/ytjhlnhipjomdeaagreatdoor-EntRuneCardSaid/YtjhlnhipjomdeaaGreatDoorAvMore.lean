/-
  Structs, fields, interface values, closures, panics: more rules. No program is spoken of.
-/
import Derived.Test.YtjhlnhipjomdeaaGreatDoorAvDraw
set_option linter.unusedVariables false
set_option linter.unusedSimpArgs false
namespace Go.Av
open Go.RowKit

def setAll (cs : List AV) (off : Nat) (vs : List AV) : List AV := cs.take off ++ vs ++ cs.drop (off + vs.length)

def fillA (places : List (Nat × Nat)) : List AV → List (Nat × AV) → Option (List AV)
  | cells, [] => some cells
  | cells, (i, a) :: rest => match places[i]? with
    | none => none
    | some (off, size) => if (cellsOf a).length ≠ size ∨ off + size > cells.length then none else fillA places (setAll cells off (cellsOf a)) rest

/-- A struct type's zero cells, and where its fields lie. -/
def structInfo (P : Program) (t : TypeId) : Option (List Value × List (Nat × Nat)) :=
  match P.underlying t with
  | some (.struct fs) => (P.info? t).bind fun i => i.zero.bind fun z => ((fs.toList.mapM fun f => (cellsAt P f.type).map fun s => (f.offset, s)) : Option (List (Nat × Nat))).map fun ps => (z.cells.toList, ps)
  | _ => none

section
variable {P : Program} {I : Info} {w : World} {e : Env} {d : Option Nat} {T : TypeId} {pos : String} {after : Array Edge} {g : Option (Nat × Bool)} {x y : Operand} {av : AV} {A : List Chunk}

theorem foldl_set (vs : List Value) : ∀ (off j : Nat) (cs : List Value), off + j + vs.length ≤ cs.length →
    (vs.zipIdx j).foldl (fun (cs : Array Value) (x : Value × Nat) => cs.setIfInBounds (off + x.2) x.1) cs.toArray = (cs.take (off + j) ++ vs ++ cs.drop (off + j + vs.length)).toArray := by
  induction vs with
  | nil => intro off j cs h; simp
  | cons v vs ih =>
    intro off j cs h
    simp only [List.zipIdx_cons, List.foldl_cons, List.setIfInBounds_toArray]
    rw [ih off (j + 1) _ (by simp at h ⊢; omega)]
    congr 1
    simp only [List.length_cons] at h
    have h1 : (cs.set (off + j) v).take (off + (j + 1)) = cs.take (off + j) ++ [v] := by
      rw [← Nat.add_assoc, List.take_succ_eq_append_getElem (by simp; omega)]
      rw [List.take_set_of_le (by omega)]
      simp
    have h2 : (cs.set (off + j) v).drop (off + (j + 1) + vs.length) = cs.drop (off + j + (vs.length + 1)) := by
      rw [List.drop_set_of_lt (by omega)]
      congr 1; omega
    rw [h1, h2]
    simp

theorem rel_setAll {cs vs : List AV} {xs ys : List Value} {off : Nat} (h : RelL I w cs xs) (g : RelL I w vs ys) (hl : off + vs.length ≤ cs.length) : RelL I w (setAll cs off vs) (xs.take off ++ ys ++ xs.drop (off + ys.length)) := by
  have ht : ∀ n, RelL I w (cs.take n) (xs.take n) := fun n => ⟨by simp [h.1], fun j hj => by
    have hj' : j < n ∧ j < cs.length := by simp at hj; omega
    have := h.2 j hj'.2
    rw [List.getElem_take]
    rw [show (xs.take n).getD j undef = xs.getD j undef by simp [List.getD, hj'.1]]
    exact this⟩
  have hd : ∀ n, RelL I w (cs.drop n) (xs.drop n) := fun n => ⟨by simp [h.1], fun j hj => by
    have hj' : n + j < cs.length := by simp at hj; omega
    rw [List.getElem_drop]
    rw [show (xs.drop n).getD j undef = xs.getD (n + j) undef by simp [List.getD]]
    exact h.2 _ hj'⟩
  unfold setAll
  rw [← g.1]
  exact RelL.append (RelL.append (ht off) g) (hd _)

theorem fill_rel (places : List (Nat × Nat)) : ∀ (parts : List (Nat × AV)) (vparts : List (Nat × Value)) (cs : List AV) (xs : List Value) (r : List AV),
    vparts.map (·.1) = parts.map (·.1) → (∀ j (h : j < parts.length), RelL I w (cellsOf parts[j].2) ((vparts.map (·.2)).getD j undef).cells.toList) → RelL I w cs xs → fillA places cs parts = some r →
    ∃ ys, Instr.fill (places.toArray[·]?) xs.toArray vparts = some ys.toArray ∧ RelL I w r ys
  | [], [], cs, xs, r, _, _, h, hf => by cases hf; exact ⟨xs, rfl, h⟩
  | [], _ :: _, _, _, _, h, _, _, _ => by cases h
  | _ :: _, [], _, _, _, h, _, _, _ => by cases h
  | (i, a) :: parts, (i', v) :: vparts, cs, xs, r, hm, hr, h, hf => by
    simp only [List.map_cons, List.cons.injEq] at hm
    obtain ⟨rfl, hm⟩ := hm
    simp only [fillA] at hf
    have h0 := hr 0 (by simp)
    simp only [List.getElem_cons_zero, List.map_cons, List.getD_cons_zero] at h0
    cases hp : places[i']? with
    | none => rw [hp] at hf; cases hf
    | some p =>
      obtain ⟨off, size⟩ := p
      rw [hp] at hf
      simp only at hf
      split at hf
      · cases hf
      · rename_i hc
        have hc1 : (cellsOf a).length = size := by omega
        have hc2 : off + size ≤ cs.length := by omega
        have hv : v.cells.size = size := by rw [← hc1, ← h0.1]; simp
        have hx : xs.length = cs.length := h.1
        obtain ⟨ys, hy, hyr⟩ := fill_rel places parts vparts _ _ r hm (fun j hj => by have := hr (j + 1) (by simpa using hj); simpa using this) (rel_setAll h h0 (by omega)) hf
        refine ⟨ys, ?_, hyr⟩
        simp only [Instr.fill, List.getElem?_toArray, hp]
        rw [if_neg (by simp [hv, hx]; omega)]
        have := foldl_set v.cells.toList off 0 xs (by simp [hv, hx]; omega)
        simp only [Nat.add_zero] at this
        have e2 : v.cells.zipIdx.foldl (fun cs (x : Value × Nat) => cs.setIfInBounds (off + x.2) x.1) xs.toArray = (xs.take off ++ v.cells.toList ++ xs.drop (off + v.cells.toList.length)).toArray := by
          rw [← this, ← Array.foldl_toList]
          congr 1
          simp
        rw [e2]
        simpa only [List.getElem?_toArray] using hy

/-- A struct of parts; what is left out is noughts. -/
theorem opS_build {parts : Array (Nat × Operand)} {zs : List Value} {ps : List (Nat × Nat)} {cs : List AV} {T2 : TypeId} (hi : structInfo P T = some (zs, ps))
    (hok : ∀ p ∈ parts.toList, isCell (opv e p.2) = true ∨ ∃ cs, opv e p.2 = .agg cs) (hf : fillA ps (zs.map .v) (parts.toList.map fun p => (p.1, opv e p.2)) = some cs) :
    OpS P ⟨d, .build T parts, T2, pos, after, g⟩ e (.agg cs) := fun I w ρ hρ => by
  unfold structInfo at hi
  cases hu : P.underlying T with
  | none => rw [hu] at hi; cases hi
  | some D =>
    rw [hu] at hi
    cases D with
    | struct fs =>
      simp only at hi
      obtain ⟨i, hin, hi⟩ := Option.bind_eq_some_iff.1 hi
      obtain ⟨z, hz, hi⟩ := Option.bind_eq_some_iff.1 hi
      obtain ⟨ps', hps, hi⟩ := Option.map_eq_some_iff.1 hi
      simp only [Prod.mk.injEq] at hi
      obtain ⟨rfl, rfl⟩ := hi
      have hz0 : RelL I w (z.cells.toList.map .v) z.cells.toList := by
        have := RelL.map (I := I) (w := w) AV.v id z.cells.toList (fun x _ => .v x)
        simpa using this
      obtain ⟨ys, hy, hyr⟩ := fill_rel (I := I) (w := w) ps' _ (parts.toList.map fun p => (p.1, ρ p.2)) _ _ cs (by simp) (fun j hj => by
        have hj' : j < parts.toList.length := by simpa using hj
        simp only [List.getElem_map, List.map_map, List.getD, List.getElem?_map, List.getElem?_eq_getElem hj', Option.map_some, Option.getD_some, Function.comp]
        exact rel_cells (hρ _) (hok _ (List.getElem_mem hj'))) hz0 hf
      refine ⟨.agg ys.toArray, .agg cs ys hyr.1 hyr.2, fun w' _ _ => ?_⟩
      have hti : (typeInfo T).run P w' = .ok i w' := by simp [typeInfo, program, hin, Sem.run]
      have hzv : (zeroValue T).run P w' = .ok z w' := by simp only [zeroValue, Sem.run_bind, hti, Result.andThen_ok, hz, Sem.run_pure]
      have hmap : ∀ (l : List Field) (r : List (Nat × Nat)), (l.mapM fun f => (cellsAt P f.type).map fun s => (f.offset, s)) = some r → (l.mapM fun f => do pure (f.offset, ← sizeOf f.type) : Sem (List (Nat × Nat))).run P w' = .ok r w' := by
        intro l
        induction l with
        | nil => intro r h; simp at h; subst h; rfl
        | cons f l ih =>
          intro r h
          simp only [List.mapM_cons, Option.bind_eq_bind, Option.bind_eq_some_iff] at h
          obtain ⟨p, hp, q, hq, h⟩ := h
          obtain ⟨s, hs, rfl⟩ := Option.map_eq_some_iff.1 hp
          cases h
          simp only [List.mapM_cons, Sem.run_bind, run_sizeOf hs, Result.andThen_ok, Sem.run_pure, ih q hq]
      have hpl : (fs.mapM fun f => do pure (f.offset, ← sizeOf f.type) : Sem (Array (Nat × Nat))).run P w' = .ok ps'.toArray w' := by
        rw [Array.mapM_eq_mapM_toList]
        simp only [Sem.run_map, hmap _ _ hps, Result.andThen_ok]
      have hpm : (parts.map fun (i, x) => (i, ρ x)).toList = parts.toList.map fun p => (p.1, ρ p.2) := by simp
      simp only [Array.toArray_toList] at hy
      simp only [execOp, Instr.build, Sem.run_bind, hzv, Result.andThen_ok, run_underlying hu, hpl, hpm, hy, Sem.run_pure]
    | _ => cases hi

theorem OpS.eq {o : Oper} {av' : AV} (h : OpS P o e av) (he : av = av') : OpS P o e av' := he ▸ h

/-- A slice of parts, told by its elements. -/
theorem opR_buildE {α : Type} {E : Enc α} {El bytes : Nat} {parts : Array (Nat × Operand)} {xs : List Operand} {l : List α} {T2 n : Nat} (hT : P.underlying T = some (.slice El)) (hE : elemInfo P El = some (1, bytes)) (hk : E.k = 1) (hn : xs.length = n) (hlt : n ≤ 16777216)
    (hp : parts = ((List.range' 0 xs.length).zip xs).toArray) (hcs : xs.map (opv e) = E.fl l) : OpR P ⟨d, .buildSlice T n parts, T2, pos, after, g⟩ e A (slE E l none) A := by
  have := opR_buildSlice (P := P) (d := d) (T := T) (pos := pos) (after := after) (g := g) (A := A) (T2 := T2) hT hE hn hp hlt hcs (E.fl_cell l)
  unfold slE
  rw [hk]
  exact this
/-- As opR_buildE, of a row that may grow. -/
theorem opX_buildE {α : Type} {E : Enc α} {El bytes : Nat} {parts : Array (Nat × Operand)} {xs : List Operand} {l : List α} {T2 n : Nat} (hT : P.underlying T = some (.slice El)) (hE : elemInfo P El = some (1, bytes)) (hk : E.k = 1) (hn : xs.length = n) (hlt : n ≤ 16777216)
    (hp : parts = ((List.range' 0 xs.length).zip xs).toArray) (hcs : xs.map (opv e) = E.fl l) : OpX P ⟨d, .buildSlice T n parts, T2, pos, after, g⟩ e A (fun av A' => ∃ t, av = slE E l (some t) ∧ A' = .tok t El :: A) := by
  have := opX_buildSlice (P := P) (d := d) (T := T) (pos := pos) (after := after) (g := g) (A := A) (T2 := T2) hT hE hn hp hlt hcs (E.fl_cell l)
  unfold slE
  rw [hk]
  exact this
end

section
variable {P : Program} {ro : Option Nat} {N : Nat} {Q : Post} {ops : Array Oper}

/-- A call that only answers. -/
theorem AO.callp {rest : List Nat} {d : Nat} {f : FuncId} {args : Array Operand} {argTypes : Array TypeId} {T : TypeId} {pos : String} {after : Array Edge} {g : Option (Nat × Bool)} {e : Env} {ds : List ADef} {A : List Chunk}
    {avs : List AV} {v : AV} (hd : Nat.blt d N = true) (hf : ∀ args w, (callFunc f args).run P w = .ok (.enter f args) w) (ha : args.toList.map (opv e) = avs)
    (h : ACalls P f avs [] (Ret v [])) (k : AR P ro N ops Q rest ⟨(d, v) :: e, ds, A⟩) :
    AO P ro N ops Q rest ⟨some d, .call ⟨.value (.func f), args, argTypes⟩, T, pos, after, g⟩ ⟨e, ds, A⟩ :=
  AO.call A hd hf ha h (List.Perm.refl _) (fun av A' ⟨h1, h2⟩ => by cases h1; subst h2; exact k) (fun c A' ⟨h1, _⟩ => by cases h1)

theorem AIO.callp {fuel : Nat} {listed : Array Bool} {d : Nat} {f : FuncId} {args : Array Operand} {argTypes : Array TypeId} {T : TypeId} {pos : String} {after : Array Edge} {g : Option (Nat × Bool)} {e : Env} {ds : List ADef} {A : List Chunk}
    {avs : List AV} {v : AV} (hd : Nat.blt d N = true) (hf : ∀ args w, (callFunc f args).run P w = .ok (.enter f args) w) (ha : args.toList.map (opv e) = avs)
    (h : ACalls P f avs [] (Ret v [])) (k : AI P N ops Q fuel listed ⟨(d, v) :: e, ds, A⟩) :
    AIO P N ops Q fuel listed ⟨some d, .call ⟨.value (.func f), args, argTypes⟩, T, pos, after, g⟩ ⟨e, ds, A⟩ :=
  AIO.call A hd hf ha h (List.Perm.refl _) (fun av A' ⟨h1, h2⟩ => by cases h1; subst h2; exact k) (fun c A' ⟨h1, _⟩ => by cases h1)

/-- What a concrete contract says of content. -/
theorem ACalls.of_calls {f : FuncId} {avs : List AV} {v : Value} (h : ∀ I w vs, RelL I w avs vs → Calls P f vs.toArray w fun e w' => e = .returned v ∧ w' = w) : ACalls P f avs [] (Ret (.v v) []) := fun F I w vs hI hv =>
  (h I w vs hv).mono fun e w' ⟨he, hw⟩ => by subst he; subst hw; exact ⟨I, .ret (.v v), [], Ext.refl _ _, hI, .v _, rfl, rfl⟩
end

theorem i64_congr {a b : Int} (h : a = b) : i64 a = i64 b := by rw [h]
theorem slE_congr {α : Type} {E : Enc α} {l m : List α} {t : Option Nat} (h : l = m) : slE E l t = slE E m t := by rw [h]
theorem Wv.of_eq {a b : AV} (h : a = b) : Wv a b := h ▸ .refl a


/-! ### Body-less functions -/

/-- Where a byte stands first; -1: nowhere. -/
def idx (s : List UInt8) (c : UInt8) : Int := match s.findIdx? (· == c) with
  | some i => i
  | none => -1

theorem find_range (s : List UInt8) (c : UInt8) : (List.range s.length).find? (fun i => (⟨s.toArray⟩ : ByteArray)[i]! == c) = s.findIdx? (· == c) := by
  have hg : ∀ i, i < s.length → (⟨s.toArray⟩ : ByteArray)[i]! = s.getD i 0 := by
    intro i hi
    have : i < (⟨s.toArray⟩ : ByteArray).size := by simpa [ByteArray.size] using hi
    rw [getElem!_pos (⟨s.toArray⟩ : ByteArray) i this]
    simp [List.getD, hi]
    rfl
  cases h : s.findIdx? (· == c) with
  | some i =>
    obtain ⟨hi, hp, hn⟩ := List.findIdx?_eq_some_iff_getElem.1 h
    refine List.find?_range_eq_some.2 ⟨?_, List.mem_range.2 hi, fun j hj => ?_⟩
    · rw [hg i hi]; simpa [List.getD, hi] using hp
    · have hj' : j < s.length := by omega
      rw [hg j hj']
      have := hn j hj
      simpa [List.getD, hj'] using this
  | none =>
    refine List.find?_range_eq_none.2 fun i hi => ?_
    rw [hg i hi]
    have := List.findIdx?_eq_none_iff.1 h (s[i]) (List.getElem_mem hi)
    simpa [List.getD, hi] using this

theorem firstIdx_mk (s : List UInt8) (c : UInt8) : firstIdx ⟨s.toArray⟩ c = idx s c := by
  have hs : (⟨s.toArray⟩ : ByteArray).size = s.length := by simp [ByteArray.size]
  unfold firstIdx idx
  rw [hs, find_range]
  cases s.findIdx? (· == c) <;> rfl

/-- A call of a function without a body that answers at once. -/
theorem opS_ext {P : Program} {e : Env} {d : Option Nat} {T : TypeId} {pos : String} {after : Array Edge} {g : Option (Nat × Bool)} {f : FuncId} {fn : Func} {ext : Array Value → Sem Value} {args : Array Operand} {argTypes : Array TypeId} {av : AV}
    (hf : P.funcs[f]? = some fn) (hname : (fn.name == "runtime.NumGoroutine") = false) (hb : fn.body.isNone = true) (hn : Extern.findNext fn = none) (he : Extern.find fn = some ext)
    (h : ∀ I w ρ, (∀ x, Rel I w (opv e x) (ρ x)) → ∃ v, Rel I w av v ∧ ∀ w', (∀ b j, Stab I b (j + 1) → w'.cell? ⟨b, j, none⟩ = w.cell? ⟨b, j, none⟩) → (ext (args.map ρ)).run P w' = .ok v w') :
    OpS P ⟨d, .call ⟨.value (.func f), args, argTypes⟩, T, pos, after, g⟩ e av := fun I w ρ hρ => by
  obtain ⟨v, hv, hw⟩ := h I w ρ hρ
  have h0 := rel_v (hρ (.func f))
  refine ⟨v, hv, fun w' hw' _ => ?_⟩
  simp only [execOp, resolve, h0, Deferred.ofValue, Sem.run_bind, Sem.run_pure, Result.andThen_ok, invoke]
  simp only [Array.empty_append, Array.append_empty]
  rw [run_callFunc_extern hf hname hb hn he, hw w' hw']
  rfl

theorem opS_indexByte {P : Program} {e : Env} {d : Option Nat} {T : TypeId} {pos : String} {after : Array Edge} {g : Option (Nat × Bool)} {f : FuncId} {fn : Func} {x y : Operand} {argTypes : Array TypeId} {s : List UInt8} {c : UInt8}
    (hf : P.funcs[f]? = some fn) (hq : (fn.name == "runtime.NumGoroutine") = false ∧ fn.body.isNone = true ∧ Extern.findNext fn = none ∧ Extern.find fn = some Extern.BytealgIndexByte.indexByte) (hx : opv e x = S s) (hy : opv e y = u8 c) :
    OpS P ⟨d, .call ⟨.value (.func f), #[x, y], argTypes⟩, T, pos, after, g⟩ e (i64 (idx s c)) := opS_ext hf hq.1 hq.2.1 hq.2.2.1 hq.2.2.2 fun I w ρ hρ => by
  have h1 := rel_v (hx ▸ hρ x)
  have h2 := rel_v (hy ▸ hρ y)
  refine ⟨_, .v _, fun w' _ => ?_⟩
  rw [show (#[x, y].map ρ) = #[ρ x, ρ y] by simp, h1, h2, run_indexByte_string]
  have : (c.toNat : Int).toNat.toUInt8 = c := by simp
  rw [this, firstIdx_mk]

theorem Ret.mk {av v : AV} {A : List Chunk} (h : av = v) : Ret v A (.ret av) A := ⟨by rw [h], rfl⟩

section
variable {P : Program} {e : Env} {d : Option Nat} {T : TypeId} {pos : String} {after : Array Edge} {g : Option (Nat × Bool)} {x y : Operand} {k : IntKind} {a b : Int} {Ts : Array TypeId}
theorem opS_max (hx : opv e x = .v (.int k a)) (hy : opv e y = .v (.int k b)) : OpS P ⟨d, .call ⟨.builtin .max, #[x, y], Ts⟩, T, pos, after, g⟩ e (.v (.int k (max a b))) := fun I w ρ hρ => by
  have h1 := rel_v (hx ▸ hρ x)
  have h2 := rel_v (hy ▸ hρ y)
  have h3 : (if b > a then b else a) = max a b := by split <;> omega
  refine ⟨_, .v _, fun w' _ _ => ?_⟩
  simp only [execOp, resolve, List.map_toArray, List.map_cons, List.map_nil, h1, h2, Sem.run_bind, Sem.run_pure, Result.andThen_ok, invoke, builtin, Builtin.max_, List.foldlM_cons, List.foldlM_nil, Builtin.max2, h3]
theorem opS_min (hx : opv e x = .v (.int k a)) (hy : opv e y = .v (.int k b)) : OpS P ⟨d, .call ⟨.builtin .min, #[x, y], Ts⟩, T, pos, after, g⟩ e (.v (.int k (min a b))) := fun I w ρ hρ => by
  have h1 := rel_v (hx ▸ hρ x)
  have h2 := rel_v (hy ▸ hρ y)
  have h3 : (if b < a then b else a) = min a b := by split <;> omega
  refine ⟨_, .v _, fun w' _ _ => ?_⟩
  simp only [execOp, resolve, List.map_toArray, List.map_cons, List.map_nil, h1, h2, Sem.run_bind, Sem.run_pure, Result.andThen_ok, invoke, builtin, Builtin.min_, List.foldlM_cons, List.foldlM_nil, Builtin.min2, h3]
end

theorem bool_no {b : Bool} {p : Prop} (h : b = true) (h' : b = false) : p := by rw [h] at h'; cases h'
theorem B_congr {a b : Bool} (h : a = b) : B a = B b := by rw [h]
end Go.Av
