/-
  Boxes that stand still, results that are read more weakly, equality of arrays and structs. No program is spoken of.
-/
import Derived.Test.YtjhlnhipjomdeaaGreatDoorAvArr
set_option linter.unusedVariables false
set_option linter.unusedSimpArgs false
namespace Go.Av
open Go.RowKit Go.Pv

section
variable {P : Program} {e : Env} {d : Option Nat} {T T2 : TypeId} {pos : String} {after : Array Edge} {g : Option (Nat × Bool)} {x y z : Operand} {av : AV} {A : List Chunk}

/-- A box that is only read: its cells stand still. -/
theorem opR_boxCp {a : AV} (hx : opv e x = a) (hc : isCell a = true ∨ ∃ cs, a = .agg cs) : OpR P ⟨d, .box T x, T2, pos, after, g⟩ e A (.cp (cellsOf a)) A := fun F I w ρ hI hρ => by
  have hv := hx ▸ hρ x
  have hrl := rel_cells hv hc
  have X := hI.new_still (.cells (ρ x).cells.toList.toArray T)
  refine ⟨_, .pointer (some ⟨w.heap.size, 0, none⟩), _, _, ?_, .inl rfl, X, hI.alloc_still _, ?_⟩
  · simp only [execOp, Instr.box, newVar, newRow, Sem.run_bind, Sem.run_pure, run_newObj_alloc, Result.andThen_ok]
  · refine .cp _ w.heap.size 0 (fun j => (ρ x).cells.toList.getD j undef) (fun m hm => by simp [Info.still] at hm) (fun j hj => ?_) (fun j hj => (hrl.2 j hj).mono X)
    have hj' : j < (ρ x).cells.toList.length := by rw [hrl.1]; exact hj
    have hh := heap_alloc_eq w (.cells (ρ x).cells.toList.toArray T)
    simp only [World.cell?, hh, Nat.zero_add]
    have hj2 : j < (ρ x).cells.size := by simpa using hj'
    simp [List.getD, hj2]

theorem Inv.freezeCp {I : Info} {A : List Chunk} {w : World} {o : Nat} {cs : List AV} (h : Inv I (.obj o cs :: A) w) : ∃ I', Ext I w I' w ∧ Inv I' A w ∧ ∀ v, Rel I w (.pt o 0) v → Rel I' w (.cp cs) v := by
  obtain ⟨b, arr, ho, he, hca, hrl⟩ := h.holds _ (List.mem_cons_self ..)
  have hbl : (Chunk.obj o cs).blk I = some b := ho
  have E : Ext I w (I.stillN b cs.length) w := by
    refine ⟨rfl, rfl, rfl, Nat.le_refl _, fun b' hb' => ⟨rfl, ?_⟩, fun _ _ _ => rfl, fun b' m hs => ?_, fun _ _ x => x, fun _ _ x => x, fun _ _ x => x⟩
    · simp only [Info.stillN]
      rw [if_neg]
      · exact hb'
      · rintro rfl; rw [he] at hb'; cases hb'
    · intro q hq
      simp only [Info.stillN] at hq
      by_cases e : b' = b
      · subst e
        have := hs 0 he
        omega
      · rw [if_neg e] at hq; exact hs q hq
  refine ⟨I.stillN b cs.length, E, ?_, ?_⟩
  · have hA : Inv I A w := h.sub (List.sublist_cons_self ..)
    refine hA.keep E (fun c hc b' hb' => ⟨rfl, ?_⟩) (fun b' hb' => ?_) h.ids
    · simp only [Info.stillN]; rw [if_neg (h.other hbl c hc b' hb')]
    · have hlt := hca.lt
      simp only [Info.stillN]; rw [if_neg (by omega)]; exact h.fresh b' hb'
  · intro v hv
    cases hv with
    | pt o off b' ho' =>
      rw [ho] at ho'; cases ho'
      have hlen : arr.length = cs.length := hrl.1
      refine .cp _ b 0 (fun j => arr.getD j undef) ?_ ?_ ?_
      · intro q hq
        simp only [Info.stillN, if_true, Option.some.injEq] at hq
        omega
      · intro j hj
        rw [Nat.zero_add, hca.cell, List.getD, List.getElem?_eq_getElem (by omega)]; rfl
      · intro j hj
        exact (hrl.2 j hj).mono E
end
section
variable {P : Program} {ro : Option Nat} {N : Nat} {Q : Post} {ops : Array Oper} {rest : List Nat} {e : Env} {ds : List ADef} {A : List Chunk}
/-- An object that is only read from now on stands still. -/
theorem AR.freezeCp {o : Nat} {cs : List AV} (t i : Nat) (ht : ev e t = .pt o 0) (hA : A[i]? = some (.obj o cs)) (h : AR P ro N ops Q rest ⟨(t, .cp cs) :: e, ds, A.eraseIdx i⟩) : AR P ro N ops Q rest ⟨e, ds, A⟩ := fun F I w a hI hS => by
  have hp := perm_at A i _ hA
  have hI2 : Inv I (.obj o cs :: (A.eraseIdx i ++ F)) w := hI.perm (hp.append_right F)
  obtain ⟨I', X, hI', hrel⟩ := hI2.freezeCp
  have hS' := hS.mono X
  refine wpOpsIn_mono' rest (fun _ _ _ => CQ.mono X fun _ _ h => h) _ _ (h F I' w a hI' ⟨hS.size, fun j => ?_, hS'.ds⟩)
  have hj := hS'.env j
  simp only [ev]
  cases hb : Nat.beq t j with
  | false => exact hj
  | true =>
    have := Nat.eq_of_beq_eq_true hb
    subst this
    have hj0 := hS.env t
    simp only [ht] at hj0
    exact hrel _ hj0
end
section
variable {P : Program} {e : Env} {d : Option Nat} {T T2 : TypeId} {pos : String} {after : Array Edge} {g : Option (Nat × Bool)} {x y z : Operand} {av : AV} {A : List Chunk}
/-! ### Results, read more weakly -/
inductive WvL : List AV → List AV → Prop where
  | nil : WvL [] []
  | cons {a b : AV} {l m : List AV} (h : Wv a b) (g : WvL l m) : WvL (a :: l) (b :: m)
theorem WvL.refl : ∀ l, WvL l l
  | [] => .nil
  | a :: l => .cons (.refl a) (WvL.refl l)
theorem WvL.rel {I : Info} {w : World} : ∀ {l m : List AV} {xs : List Value}, WvL l m → RelL I w l xs → RelL I w m xs
  | _, _, _, .nil, h => h
  | _, _, _, .cons h g, hr => by
    obtain ⟨x, xs, rfl, h1, h2⟩ := hr.out_cons
    exact RelL.cons (h.rel h1) (g.rel h2)
theorem CellV.aggW {a t : Nat} {cs vs : List AV} (h : CellV P e A a t (.agg cs)) (hw : WvL cs vs) : CellV P e A a t (.agg vs) := fun F I w v hI hv => by
  obtain ⟨p, x, h1, h2, h3⟩ := h F I w v hI hv
  cases h3 with
  | agg _ xs hl hr =>
    have := hw.rel ⟨hl, hr⟩
    exact ⟨p, _, h1, h2, .agg _ xs this.1 this.2⟩
theorem CellV.oneW {a t : Nat} {c v : AV} (h : CellV P e A a t c) (hw : Wv c v) : CellV P e A a t v := fun F I w u hI hv => by
  obtain ⟨p, x, h1, h2, h3⟩ := h F I w u hI hv
  exact ⟨p, x, h1, h2, hw.rel h3⟩
end

/-! ### Equality of arrays and structs whose parts are texts, numbers and the like -/
section
variable {P : Program}
/-- May two values of a type be held against one another, part by part? What comes of it. -/
def eqCell : AV → AV → Option Bool
  | .v (.bool a), .v (.bool b) => some (a == b)
  | .v (.int k a), .v (.int k' b) => if k = k' then some (a == b) else none
  | .v (.string a), .v (.string b) => some (a == b)
  | _, _ => none
def eqDesc : TypeDesc → AV → Bool
  | .bool, .v (.bool _) => true
  | .int _, .v (.int _ _) => true
  | .string, .v (.string _) => true
  | _, _ => false
def eqList (P : Program) : List TypeId → List AV → List AV → Option (List Bool)
  | [], [], [] => some []
  | t :: ts, a :: as, b :: bs => match P.underlying t, eqCell a b, eqList P ts as bs with
    | some D, some r, some rs => if eqDesc D a && eqDesc D b then some (r :: rs) else none
    | _, _, _ => none
  | _, _, _ => none

theorem run_equal_cell {t : TypeId} {D : TypeDesc} {a b : AV} {x y : Value} {r : Bool} {I : Info} {w : World} {n : Nat} (ht : P.underlying t = some D) (h1 : eqDesc D a = true) (h2 : eqDesc D b = true) (hr : eqCell a b = some r) (ha : Rel I w a x) (hb : Rel I w b y) (w' : World) :
    (Op.equalIn (n + 1) t x y).run P w' = .ok r w' := by
  cases D <;> cases a <;> (try (simp [eqDesc] at h1; done)) <;> rename_i u <;> cases u <;> (try (simp [eqDesc] at h1; done)) <;> cases b <;> (try (simp [eqDesc] at h2; done)) <;> rename_i v <;> cases v <;> (try (simp [eqDesc] at h2; done)) <;>
    cases ha <;> cases hb <;> simp only [Op.equalIn, Sem.run_bind, run_underlying ht, Result.andThen_ok] <;> simp only [eqCell] at hr
  · cases hr; rfl
  · split at hr
    · rename_i h; subst h; cases hr; simp
    · cases hr
  · cases hr; rfl

/-- The types of an array's or a struct's parts, each of one cell. -/
def eqParts (P : Program) (t : TypeId) : Option (List TypeId) := match P.underlying t with
  | some (.array len El) => if cellsAt P El = some 1 then some (List.replicate len El) else none
  | some (.struct fs) => if P.stoodInHeld t = false && (fs.toList.zipIdx.all fun p => decide (p.1.name ≠ "_") && decide (p.1.offset = p.2) && decide (cellsAt P p.1.type = some 1)) then some (fs.toList.map (·.type)) else none
  | _ => none
def plainPart (P : Program) (t : TypeId) : Bool := match P.underlying t with
  | some D => !aggDesc D
  | none => false

theorem run_part_one {t : TypeId} {D : TypeDesc} {xs : List Value} {i : Nat} (hT : P.underlying t = some D) (hD : aggDesc D = false) (hi : i < xs.length) (w : World) : (part t xs.toArray i).run P w = .ok (xs.getD i undef) w := by
  simp [part, run_isAgg hT hD, hi, List.getD]

theorem run_equal_arr {T El len n : Nat} {D : TypeDesc} {xs ys : List Value} {rs : List Bool} (hT : P.underlying T = some (.array len El)) (hE : P.underlying El = some D) (hD : aggDesc D = false) (hsz : cellsAt P El = some 1) (hx : xs.length = len) (hy : ys.length = len) (hr : rs.length = len) (w : World)
    (h : ∀ i, i < len → (Op.equalIn (n + 1) El (xs.getD i undef) (ys.getD i undef)).run P w = .ok (rs.getD i true) w) : (Op.equalIn (n + 2) T (.agg xs.toArray) (.agg ys.toArray)).run P w = .ok (rs.all id) w := by
  rw [Op.equalIn]
  simp only [Sem.run_bind, run_underlying hT, Result.andThen_ok, run_sizeOf hsz, Nat.mul_one]
  rw [Std.Legacy.Range.forIn_eq_forIn_range']
  have key : ∀ l : List Nat, (∀ i ∈ l, i < len) → Sem.run P (forIn l ((none : Option Bool), ()) fun i __s => do
      let a ← part El xs.toArray i
      let b ← part El ys.toArray i
      let c ← Op.equalIn (n + 1) El a b
      if (!c) = true then pure (ForInStep.done (some false, ())) else pure (ForInStep.yield (none, ()))) w = .ok (if l.all (fun i => rs.getD i true) then (none, ()) else (some false, ())) w := by
    intro l
    induction l with
    | nil => intro _; rfl
    | cons i l ih =>
      intro hl
      have hi := hl i (List.mem_cons_self ..)
      simp only [List.forIn_cons, Sem.run_bind, run_part_one hE hD (show i < xs.length by omega) w, run_part_one hE hD (show i < ys.length by omega) w, h i hi, Result.andThen_ok, List.all_cons]
      by_cases hb : rs.getD i true = true
      · simp only [hb, Bool.not_true, Bool.false_eq_true, if_false, Sem.run_pure, Result.andThen_ok, Bool.true_and]
        exact ih fun j hj => hl j (List.mem_cons_of_mem _ hj)
      · have hb' : rs.getD i true = false := by simpa using hb
        simp only [hb', Bool.not_false, if_true, Sem.run_pure, Result.andThen_ok, Bool.false_and, Bool.false_eq_true, if_false]
  have hall : (List.range' 0 len 1).all (fun i => rs.getD i true) = rs.all id := by
    rw [← hr]
    have : rs = (List.range' 0 rs.length 1).map (fun i => rs.getD i true) := by
      apply List.ext_getElem
      · simp
      · intro j h1 h2; simp [List.getD, h1]
    conv => rhs; rw [this]
    rw [List.all_map]; rfl
  have hk := key (List.range' 0 len 1) (fun i hi => by simpa using hi)
  rw [hall] at hk
  simp only [Std.Legacy.Range.size, Nat.sub_zero, Nat.add_sub_cancel, Nat.div_one]
  rw [hk]
  simp only [Result.andThen_ok]
  cases rs.all id <;> rfl

theorem eqList_spec {I : Info} {w : World} : ∀ (ts : List TypeId) (as bs : List AV) (rs : List Bool) (xs ys : List Value), eqList P ts as bs = some rs → RelL I w as xs → RelL I w bs ys →
    rs.length = ts.length ∧ as.length = ts.length ∧ bs.length = ts.length ∧ ∀ (n : Nat) (w' : World) (i : Nat) (hi : i < ts.length), (Op.equalIn (n + 1) ts[i] (xs.getD i undef) (ys.getD i undef)).run P w' = .ok (rs.getD i true) w'
  | [], [], [], rs, xs, ys, h, _, _ => by cases h; exact ⟨rfl, rfl, rfl, fun _ _ i hi => absurd hi (Nat.not_lt_zero _)⟩
  | t :: ts, a :: as, b :: bs, rs, xs, ys, h, hx, hy => by
    obtain ⟨x, xs', rfl, hx1, hx2⟩ := hx.out_cons
    obtain ⟨y, ys', rfl, hy1, hy2⟩ := hy.out_cons
    simp only [eqList] at h
    split at h
    · rename_i D r rs' hD hr hrs
      split at h
      · rename_i hd
        cases h
        simp only [Bool.and_eq_true] at hd
        obtain ⟨h1, h2, h3, h4⟩ := eqList_spec ts as bs rs' xs' ys' hrs hx2 hy2
        refine ⟨by simp [h1], by simp [h2], by simp [h3], fun n w' i hi => ?_⟩
        cases i with
        | zero => exact run_equal_cell hD hd.1 hd.2 hr hx1 hy1 w'
        | succ i => exact h4 n w' i (by simpa using hi)
      · cases h
    · cases h
  | [], _ :: _, _, _, _, _, h, _, _ | [], [], _ :: _, _, _, _, h, _, _ | _ :: _, [], _, _, _, _, h, _, _ | _ :: _, _ :: _, [], _, _, _, h, _, _ => by simp [eqList] at h
end

section
variable {P : Program} {e : Env} {d : Option Nat} {T T2 T' : TypeId} {pos : String} {after : Array Edge} {g : Option (Nat × Bool)} {x y z : Operand}
theorem eqGuard_agg {op : BinOp} {xs ys : Array Value} (hg : P.eqGuardType P.depth T = false) (w : World) : (eqGuard op T x y (.agg xs) (.agg ys)).run P w = .ok () w := by
  unfold eqGuard
  cases op <;> simp [program, Sem.run, hg]
theorem opS_eq_arr {op : BinOp} {as bs : List AV} {rs : List Bool} {r : Bool} {El len : Nat} {D : TypeDesc} (hop : op = .eql ∨ op = .neq) (hT : P.underlying T = some (.array len El)) (hE : P.underlying El = some D) (hD : aggDesc D = false) (hsz : cellsAt P El = some 1) (hg : P.eqGuardType P.depth T = false)
    (hx : opv e x = .agg as) (hy : opv e y = .agg bs) (hl : eqList P (List.replicate len El) as bs = some rs) (hr : rs.all id = r) : OpS P ⟨d, .binOp op T x y T', T2, pos, after, g⟩ e (B (if op = .eql then r else !r)) := fun I w ρ hρ => by
  have h1 := hx ▸ hρ x
  have h2 := hy ▸ hρ y
  generalize e1 : ρ x = u at h1
  generalize e2 : ρ y = v at h2
  cases h1 with
  | agg _ xs hlx hrx =>
    cases h2 with
    | agg _ ys hly hry =>
      obtain ⟨k1, k2, k3, k4⟩ := eqList_spec _ _ _ _ _ _ hl ⟨hlx, hrx⟩ ⟨hly, hry⟩
      simp only [List.length_replicate] at k1 k2 k3
      refine ⟨.bool (if op = .eql then r else !r), .v _, fun w' _ _ => ?_⟩
      have hq : (Op.equal T (.agg xs.toArray) (.agg ys.toArray)).run P w' = .ok r w' := by
        rw [← hr]
        refine run_equal_arr (n := Op.maxDepth - 2) hT hE hD hsz (by omega) (by omega) (by omega) w' (fun i hi => ?_)
        have := k4 (Op.maxDepth - 2) w' i (by simpa using hi)
        simpa using this
      rcases hop with rfl | rfl
      · simp only [execOp, e1, e2, Sem.run_bind, eqGuard_agg hg, Result.andThen_ok, binOp, hq, Sem.run_pure, if_true]
      · simp only [execOp, e1, e2, Sem.run_bind, eqGuard_agg hg, Result.andThen_ok, binOp, hq, Sem.run_pure]; rfl
theorem str_beq (s r : List UInt8) : ((⟨s.toArray⟩ : ByteArray) == ⟨r.toArray⟩) = decide (s = r) := by
  show (s.toArray == r.toArray) = decide (s = r)
  rw [Bool.eq_iff_iff]; simp

/-- An interface's value that is there is not nil. -/
theorem opS_nil_ifc {op : BinOp} {t : TypeId} {a : AV} {ms : List Method} {D : TypeDesc} (hop : op = .eql ∨ op = .neq) (hT : P.underlying T = some D) (hD : (match D with | .interface _ => true | _ => false) = true) (hx : opv e x = .ifc t a) : OpS P ⟨d, .binOp op T x (.const .nilIface) T', T2, pos, after, g⟩ e (B (if op = .eql then false else true)) := fun I w ρ hρ => by
  have h1 := hx ▸ hρ x
  have h2 := rel_v (hρ (.const .nilIface))
  generalize e1 : ρ x = u at h1
  cases h1 with
  | ifc _ _ y hy =>
    refine ⟨.bool (if op = .eql then false else true), .v _, fun w' _ _ => ?_⟩
    have hg : (eqGuard op T x (.const .nilIface) (.iface t y) .nilIface).run P w' = .ok () w' := eqGuard_c (.inr ⟨_, _, rfl⟩) w'
    have hq : (Op.equal T (.iface t y) .nilIface).run P w' = .ok false w' := by
      cases D <;> first
        | (simp at hD; done)
        | (unfold Op.equal; rw [show Op.maxDepth = 9999 + 1 from rfl, Op.equalIn]; simp only [Sem.run_bind, run_underlying hT, Result.andThen_ok]; rfl)
    rcases hop with rfl | rfl
    · simp only [execOp, e1, h2, Sem.run_bind, hg, Result.andThen_ok, binOp, hq, Sem.run_pure, if_true]
    · simp only [execOp, e1, h2, Sem.run_bind, hg, Result.andThen_ok, binOp, hq, Sem.run_pure]; rfl
/-- A place of an array that stands still. -/
theorem opS_indexAddr_arrv_cp {α : Type} [Inhabited α] {E : Enc α} {post : List AV} {l : List α} {len El : Nat} {q : IntKind} {i : Int} {v : α} {c : AV} (hk : E.k = 1) (hT : P.underlying T = some (.array len El)) (hsz : cellsAt P El = some 1) (hx : opv e x = .cp (E.fl l ++ post)) (hy : opv e y = .v (.int q i)) (hll : Nat.beq l.length len = true)
    (hg : okAt i len = true) (he : at_ l i = v) (hc : E.f v = [c]) : OpS P ⟨d, .indexAddr T x y, T2, pos, after, g⟩ e (.cp [c]) := fun I w ρ hρ => by
  obtain ⟨h1, h2⟩ := okAt_s hg
  have hll' := Nat.eq_of_beq_eq_true hll
  have hlt : i.toNat < l.length := by omega
  have hfl : (E.fl l).length = l.length := by rw [E.fl_length, hk, Nat.mul_one]
  have := opS_indexAddr_arr_cp (P := P) (d := d) (pos := pos) (after := after) (g := g) (T2 := T2) (m := i.toNat) hT hsz hx hy (Int.toNat_of_nonneg h1).symm (by omega) (by simp [hfl]; omega)
  obtain ⟨u, hu, hw⟩ := this I w ρ hρ
  refine ⟨u, ?_, hw⟩
  have e1 : v = l[i.toNat] := by
    have := at_nat (l := l) hlt
    rw [Int.toNat_of_nonneg h1] at this
    rw [← he, this]
  have e2 : (E.fl l ++ post)[i.toNat]? = some c := by
    rw [List.getElem?_append_left (by omega), fl_get hk l _ hlt, ← e1, hc]; rfl
  obtain ⟨hlt2, e3⟩ := List.getElem?_eq_some_iff.1 e2
  cases hu with
  | cp _ b off xs hst hcx hr =>
    have hd : 0 < ((E.fl l ++ post).drop (i.toNat * 1)).length := by simp [hfl]; omega
    refine .cp [c] b off xs (hst.le (by simp [hfl]; omega)) (fun j hj => hcx j (by simp at hj; omega)) (fun j hj => ?_)
    have hj0 : j = 0 := by simp at hj; exact hj
    subst hj0
    have := hr 0 hd
    simpa [e3] using this
end
section
variable {P : Program} {N : Nat} {fn : Func} {e : Env} {A : List Chunk} {av bv cv : AV}
/-- What a result's place reads as. -/
def PlaceV (P : Program) (e : Env) (A : List Chunk) : ResultVar → AV → Prop
  | .tmp t, av => Wv (ev e t) av
  | .cell a t, av => CellV P e A a t av
def placeRun (tmps : Array Value) : ResultVar → Sem Value
  | .tmp t => pure (tmps.getD t undef)
  | .cell a t => do loadVar t (← asAddr (tmps.getD a undef))
theorem PlaceV.run {r : ResultVar} (h : PlaceV P e A r av) {F : List Chunk} {I : Info} {w : World} {tmps : Array Value} (hI : Inv I (A ++ F) w) (ht : ∀ t, Rel I w (ev e t) (tmps.getD t undef)) : ∃ x, (placeRun tmps r).run P w = .ok x w ∧ Rel I w av x := by
  cases r with
  | tmp t => exact ⟨_, rfl, Wv.rel h (ht t)⟩
  | cell a t =>
    obtain ⟨p, x, h1, h2, h3⟩ := h F I w _ hI (ht a)
    exact ⟨x, by simp only [placeRun, Sem.run_bind, h1, Result.andThen_ok, h2], h3⟩
theorem results_place (tmps : Array Value) : results fn tmps = (do let vs ← fn.results.mapM (placeRun tmps); pure (if h : vs.size = 1 then vs[0] else .tuple vs)) := by
  unfold results
  congr 1
theorem ResT.place1 {r : ResultVar} (hr : fn.results = #[r]) (h : PlaceV P e A r av) : ResT P fn N e A av := fun F I w tmps hI hs ht => by
  obtain ⟨x, h1, h2⟩ := h.run hI ht
  refine ⟨x, ?_, h2⟩
  rw [results_place, hr]
  simp [h1]
theorem ResT.place2 {r q : ResultVar} (hr : fn.results = #[r, q]) (h : PlaceV P e A r av) (g : PlaceV P e A q bv) : ResT P fn N e A (.tup [av, bv]) := fun F I w tmps hI hs ht => by
  obtain ⟨x, h1, h2⟩ := h.run hI ht
  obtain ⟨y, g1, g2⟩ := g.run hI ht
  refine ⟨.tuple #[x, y], ?_, .tup _ [x, y] rfl (RelL.cons h2 (RelL.cons g2 RelL.nil)).2⟩
  rw [results_place, hr]
  simp [h1, g1]
theorem ResT.place3 {r q s : ResultVar} (hr : fn.results = #[r, q, s]) (h : PlaceV P e A r av) (g : PlaceV P e A q bv) (k : PlaceV P e A s cv) : ResT P fn N e A (.tup [av, bv, cv]) := fun F I w tmps hI hs ht => by
  obtain ⟨x, h1, h2⟩ := h.run hI ht
  obtain ⟨y, g1, g2⟩ := g.run hI ht
  obtain ⟨z, k1, k2⟩ := k.run hI ht
  refine ⟨.tuple #[x, y, z], ?_, .tup _ [x, y, z] rfl (RelL.cons h2 (RelL.cons g2 (RelL.cons k2 RelL.nil))).2⟩
  rw [results_place, hr]
  simp [h1, g1, k1]
end
end Go.Av
