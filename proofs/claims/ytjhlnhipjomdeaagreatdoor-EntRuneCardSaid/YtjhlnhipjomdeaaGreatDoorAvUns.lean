/-
  What strings.Builder asks: pointers that are compared and handed through, a row's bytes as a text, room that is made. No program is spoken of.
-/
import Derived.Test.YtjhlnhipjomdeaaGreatDoorAvObj
set_option linter.unusedVariables false
set_option linter.unusedSimpArgs false
namespace Go.Av
open Go.RowKit

section
variable {P : Program} {I : Info} {w : World} {e : Env} {d : Option Nat} {T : TypeId} {pos : String} {after : Array Edge} {g : Option (Nat × Bool)} {x y : Operand} {av : AV} {A : List Chunk}

theorem eqGuard_ptr {op : BinOp} {a b : Option Addr} (w : World) : (eqGuard op T x y (.pointer a) (.pointer b)).run P w = .ok () w := by
  unfold eqGuard
  cases op <;> rfl

theorem equalIn_nil_r {n : Nat} {El : TypeId} {a : Addr} (hT : P.underlying T = some (.pointer El)) (w : World) : (Op.equalIn (n + 1) T (.pointer (some a)) (.pointer none)).run P w = .ok false w := by
  simp only [Op.equalIn, Sem.run_bind, run_underlying hT, Result.andThen_ok, Sem.run_pure]
theorem equalIn_nil_nil {n : Nat} {El : TypeId} (hT : P.underlying T = some (.pointer El)) (w : World) : (Op.equalIn (n + 1) T (.pointer none) (.pointer none)).run P w = .ok true w := by
  simp only [Op.equalIn, Sem.run_bind, run_underlying hT, Result.andThen_ok, Sem.run_pure]
  (try rfl)
theorem equalIn_same {n k : Nat} {El : TypeId} {a : Addr} (hT : P.underlying T = some (.pointer El)) (hsz : cellsAt P El = some k) (hk : k ≠ 0) (w : World) : (Op.equalIn (n + 1) T (.pointer (some a)) (.pointer (some a))).run P w = .ok true w := by
  simp only [Op.equalIn, Sem.run_bind, run_underlying hT, Result.andThen_ok, Sem.run_pure, run_sizeOf hsz]
  rw [if_pos hk]
  simp [sameAddr]
theorem equal_nil_r {El : TypeId} {a : Addr} (hT : P.underlying T = some (.pointer El)) (w : World) : (Op.equal T (.pointer (some a)) (.pointer none)).run P w = .ok false w := equalIn_nil_r (n := 9999) hT w
theorem equal_nil_nil {El : TypeId} (hT : P.underlying T = some (.pointer El)) (w : World) : (Op.equal T (.pointer none) (.pointer none)).run P w = .ok true w := equalIn_nil_nil (n := 9999) hT w
theorem equal_same {k : Nat} {El : TypeId} {a : Addr} (hT : P.underlying T = some (.pointer El)) (hsz : cellsAt P El = some k) (hk : k ≠ 0) (w : World) : (Op.equal T (.pointer (some a)) (.pointer (some a))).run P w = .ok true w := equalIn_same (n := 9999) hT hsz hk w

/-- A pointer to an object is not nil. -/
theorem opS_eqnil_pt {o off : Nat} {El T' T2 : TypeId} (hT : P.underlying T = some (.pointer El)) (hx : opv e x = .pt o off) (hy : opv e y = .v (.pointer none)) : OpS P ⟨d, .binOp .eql T x y T', T2, pos, after, g⟩ e (B false) := fun I w ρ hρ => by
  have h := hx ▸ hρ x
  have e2 := rel_v (hy ▸ hρ y)
  generalize e1 : ρ x = v at h
  cases h with
  | pt o off b ho =>
    refine ⟨_, .v _, fun w' _ _ => ?_⟩
    simp only [execOp, e1, e2, Sem.run_bind, eqGuard_ptr, Result.andThen_ok, binOp, equal_nil_r hT, equal_nil_nil hT, Sem.run_pure]
theorem opS_nenil_pt {o off : Nat} {El T' T2 : TypeId} (hT : P.underlying T = some (.pointer El)) (hx : opv e x = .pt o off) (hy : opv e y = .v (.pointer none)) : OpS P ⟨d, .binOp .neq T x y T', T2, pos, after, g⟩ e (B true) := fun I w ρ hρ => by
  have h := hx ▸ hρ x
  have e2 := rel_v (hy ▸ hρ y)
  generalize e1 : ρ x = v at h
  cases h with
  | pt o off b ho =>
    refine ⟨_, .v _, fun w' _ _ => ?_⟩
    simp only [execOp, e1, e2, Sem.run_bind, eqGuard_ptr, Result.andThen_ok, binOp, equal_nil_r hT, equal_nil_nil hT, Sem.run_pure]
    (try rfl)
theorem opS_eqnil_nil {El T' T2 : TypeId} (hT : P.underlying T = some (.pointer El)) (hx : opv e x = .v (.pointer none)) (hy : opv e y = .v (.pointer none)) : OpS P ⟨d, .binOp .eql T x y T', T2, pos, after, g⟩ e (B true) := fun I w ρ hρ => by
  have e1 := rel_v (hx ▸ hρ x)
  have e2 := rel_v (hy ▸ hρ y)
  refine ⟨_, .v _, fun w' _ _ => ?_⟩
  simp only [execOp, e1, e2, Sem.run_bind, eqGuard_ptr, Result.andThen_ok, binOp, equal_nil_r hT, equal_nil_nil hT, Sem.run_pure]
  (try rfl)
theorem opS_nenil_nil {El T' T2 : TypeId} (hT : P.underlying T = some (.pointer El)) (hx : opv e x = .v (.pointer none)) (hy : opv e y = .v (.pointer none)) : OpS P ⟨d, .binOp .neq T x y T', T2, pos, after, g⟩ e (B false) := fun I w ρ hρ => by
  have e1 := rel_v (hx ▸ hρ x)
  have e2 := rel_v (hy ▸ hρ y)
  refine ⟨_, .v _, fun w' _ _ => ?_⟩
  simp only [execOp, e1, e2, Sem.run_bind, eqGuard_ptr, Result.andThen_ok, binOp, equal_nil_r hT, equal_nil_nil hT, Sem.run_pure]
  (try rfl)
/-- One pointer twice. -/
theorem opS_ne_same {o off k : Nat} {El T' T2 : TypeId} (hT : P.underlying T = some (.pointer El)) (hsz : cellsAt P El = some k) (hk : k ≠ 0) (hx : opv e x = .pt o off) (hy : opv e y = .pt o off) : OpS P ⟨d, .binOp .neq T x y T', T2, pos, after, g⟩ e (B false) := fun I w ρ hρ => by
  have h1 := hx ▸ hρ x
  have h2 := hy ▸ hρ y
  generalize e1 : ρ x = v at h1
  generalize e2 : ρ y = u at h2
  cases h1 with
  | pt o off b ho =>
    cases h2 with
    | pt o off b' ho' =>
      rw [ho] at ho'; cases ho'
      refine ⟨_, .v _, fun w' _ _ => ?_⟩
      simp only [execOp, e1, e2, Sem.run_bind, eqGuard_ptr, Result.andThen_ok, binOp, equal_same hT hsz hk, Sem.run_pure]
      (try rfl)

theorem shape_obj {b : Nat} {arr : List Value} {E : TypeId} (h : CellsAt w b arr) (he : ElemAt w b E) : w.shape? b = some (E, arr.length) := by
  obtain ⟨E', fz, h1, _⟩ := h
  obtain ⟨c, fz', h2⟩ := he
  rw [h1] at h2; cases h2
  simp [World.shape?, h1]

/-- A pointer as unsafe.Pointer. -/
theorem opR_to_unsafe {o off i k : Nat} {cs : List AV} {t src dst T2 : TypeId} (hs : P.underlying src = some (.pointer t)) (hd : P.underlying dst = some .unsafePointer) (hsz : cellsAt P t = some k) (hk : k ≠ 0) (hx : opv e x = .pt o off) (hA : A[i]? = some (.obj o cs)) (hoff : off < cs.length) :
    OpR P ⟨d, .convert src dst x, T2, pos, after, g⟩ e A (.pt o off) A := fun F I w ρ hI hρ => by
  have h := hx ▸ hρ x
  generalize e1 : ρ x = v at h
  cases h with
  | pt o off b ho =>
    obtain ⟨b', arr, ho', he, hca, hrl⟩ := hI.holds _ (mem_app hA F)
    rw [ho] at ho'; cases ho'
    obtain ⟨E, hE⟩ : ∃ E, ElemAt w b E := by obtain ⟨E, fz, h, _⟩ := hca; exact ⟨E, _, fz, h⟩
    have hsh := shape_obj hca hE
    refine ⟨_, .pointer (some ⟨b, off, none⟩), w, I, ?_, .inl rfl, Ext.refl _ _, hI, .pt _ _ _ ho⟩
    have hl : ¬ arr.length ≤ off := by rw [hrl.1]; omega
    simp only [execOp, e1, Sem.run_bind, convert, run_underlying hs, run_underlying hd, Result.andThen_ok, Conv.unsafePointer, Conv.seenAt, viewAt, run_shape, hsh, Option.isSome_some, if_true, Sem.run_pure, cellsIn, run_sizeOf hsz]
    simp [hl, hk]

/-- An unsafe.Pointer as a pointer again. -/
theorem opR_from_unsafe {o off i j k : Nat} {cs : List AV} {u E src dst T2 : TypeId} (hs : P.underlying src = some .unsafePointer) (hd : P.underlying dst = some (.pointer u)) (hsz : cellsAt P u = some k) (hx : opv e x = .pt o off) (hA : A[i]? = some (.obj o cs)) (hA2 : A[j]? = some (.ty o E))
    (hl : liesAt P P.depth E (cs.length / P.cellsOf E) off u 1 = true) :
    OpR P ⟨d, .convert src dst x, T2, pos, after, g⟩ e A (.pt o off) A := fun F I w ρ hI hρ => by
  have h := hx ▸ hρ x
  generalize e1 : ρ x = v at h
  cases h with
  | pt o off b ho =>
    obtain ⟨b', arr, ho', he, hca, hrl⟩ := hI.holds _ (mem_app hA F)
    rw [ho] at ho'; cases ho'
    obtain ⟨b2, ho2, hE⟩ := hI.holds _ (mem_app hA2 F)
    rw [ho] at ho2; cases ho2
    have hsh := shape_obj hca hE
    refine ⟨_, .pointer (some ⟨b, off, none⟩), w, I, ?_, .inl rfl, Ext.refl _ _, hI, .pt _ _ _ ho⟩
    have hv : (variablesAt ⟨b, off, none⟩ u 1).run P w = .ok true w := by
      simp only [variablesAt, Sem.run_bind, run_program, run_shape, hsh, Result.andThen_ok, Sem.run_pure, hrl.1, hl]
    simp only [execOp, e1, Sem.run_bind, convert, run_underlying hs, run_underlying hd, Result.andThen_ok, Conv.unsafePointer, Conv.seenAt, viewAt, run_shape, hsh, Option.isSome_some, if_true, Sem.run_pure, run_sizeOf hsz, hv, Bool.or_true]

/-- What hands its argument through. -/
theorem opS_through {f : FuncId} {fn : Func} {argTypes : Array TypeId} {a : AV} (hf : P.funcs[f]? = some fn) (hq : (fn.name == "runtime.NumGoroutine") = false ∧ fn.body.isNone = true ∧ Extern.findNext fn = none ∧ Extern.find fn = some Extern.AbiNoEscape.same) (hx : opv e x = a) :
    OpS P ⟨d, .call ⟨.value (.func f), #[x], argTypes⟩, T, pos, after, g⟩ e a := opS_ext hf hq.1 hq.2.1 hq.2.2.1 hq.2.2.2 fun I w ρ hρ => ⟨ρ x, hx ▸ hρ x, fun w' _ => by rw [show (#[x].map ρ) = #[ρ x] by simp]; rfl⟩

/-! ### A row's bytes as a text -/

theorem byte_fl (l : List UInt8) : Enc.byte.fl l = l.map fun c => u8 c := by
  induction l with
  | nil => rfl
  | cons c s ih => rw [Enc.fl_cons, ih]; rfl

/-- The first element's address. -/
theorem opR_sliceData {l : List UInt8} {t i : Nat} {El El' : TypeId} (hT : P.underlying T = some (.pointer El')) (hx : opv e x = slE Enc.byte l (some t)) (hA : A[i]? = some (.tok t El)) {Ts : Array TypeId} :
    OpR P ⟨d, .call ⟨.builtin .unsafeSliceData, #[x], Ts⟩, T, pos, after, g⟩ e A (.rp (slE Enc.byte l (some t))) A := fun F I w ρ hI hρ => by
  have h := hx ▸ hρ x
  generalize e1 : ρ x = v at h
  have hex : ∀ p w', (Builtin.unsafeSliceData_ Ts T #[v]).run P w = .ok (.pointer p) w' → (execOp ρ ⟨d, .call ⟨.builtin .unsafeSliceData, #[x], Ts⟩, T, pos, after, g⟩).run P w = .ok (.value (.pointer p)) w' := fun p w' hp => by
    simp only [execOp, resolve, List.map_toArray, List.map_cons, List.map_nil, Sem.run_bind, Sem.run_pure, Result.andThen_ok, invoke, builtin, e1, hp]
  have h' := h
  unfold slE at h
  generalize hcs : Enc.byte.fl l = cs at h
  cases h with
  | slnil k t ht => exact ⟨_, _, w, I, hex _ _ rfl, .inl rfl, Ext.refl _ _, hI, .rp _ _ _ _ _ h' (.inl rfl)⟩
  | sl k cs t' b off len cap f hk hlen hcap hst hxx hr ht =>
    obtain ⟨htk, rfl⟩ := ht t rfl
    by_cases hc : cap = 0
    · obtain ⟨ob, n, c, ht2, _, hh⟩ := hI.holds _ (mem_app hA F)
      rw [htk] at ht2; cases ht2
      obtain ⟨_, _, arr, hca, hal, hE⟩ := hh b rfl
      have hsh := shape_obj hca hE
      subst hc
      exact ⟨_, _, _, _, hex _ _ (Go.Lib.run_unsafeSliceData_zero w _ _ _ hT _ _ _ hsh), .inl rfl, hI.new_still _, hI.alloc_still _, .rp _ _ _ _ _ (h'.mono (hI.new_still _)) (.inr rfl)⟩
    · exact ⟨_, _, w, I, hex _ _ (Go.Lib.run_unsafeSliceData_row w _ _ _ _ _ hc), .inl rfl, Ext.refl _ _, hI, .rp _ _ _ _ _ h' (.inl rfl)⟩

/-- What is dropped may be frozen. -/
theorem Inv.freeze_tok {t b n c m : Nat} {E0 : TypeId} (h : Inv I (.tok t E0 :: A) w) (ht : I.tok t = some (some b, n, c)) : Ext I w I (w.freeze ⟨b, 0, none⟩ m) ∧ Inv I A (w.freeze ⟨b, 0, none⟩ m) := by
  obtain ⟨ob, n', c', ht2, _, hh⟩ := h.holds _ (List.mem_cons_self ..)
  rw [ht] at ht2; cases ht2
  obtain ⟨he, hnc, arr, hca, hl⟩ := hh b rfl
  have hsz : (w.freeze ⟨b, 0, none⟩ m).heap.size = w.heap.size := by unfold World.freeze; split <;> simp
  have hrest : (w.freeze ⟨b, 0, none⟩ m).os = w.os ∧ (w.freeze ⟨b, 0, none⟩ m).tape = w.tape ∧ (w.freeze ⟨b, 0, none⟩ m).output = w.output := by unfold World.freeze; split <;> simp
  have X : Ext I w I (w.freeze ⟨b, 0, none⟩ m) := by
    refine ⟨hrest.1, hrest.2.1, hrest.2.2, by omega, fun b' hb' => ⟨heap_freeze_ne _ _ _ _ (fun e => by simp only at e; rw [e, he] at hb'; cases hb'), hb'⟩, fun b' j' _ => cell_freeze _ _ _ _, fun _ _ h => h, fun _ _ h => h, fun _ _ h => h, fun _ _ h => h.freeze _ _⟩
  refine ⟨X, (h.sub (List.sublist_cons_self ..)).keep X (fun d hd b' hb' => ⟨heap_freeze_ne _ _ _ _ (fun e => ?_), rfl⟩) (fun b' hb' => h.fresh b' (by omega)) h.ids⟩
  exact h.apart (c := .tok t E0) (b := b) (by simp [Chunk.blk, ht]) d hd (by simp only at e; rw [← e]; exact hb')

/-- A row's bytes as a text: the row is given up. -/
theorem opR_unsafeString {l : List UInt8} {t i pt T3 : Nat} {n : Int} {El : TypeId} (hp : P.underlying pt = some (.pointer El)) (hc1 : P.cellsOf El = 1) (hx : opv e x = .rp (slE Enc.byte l (some t))) (hy : opv e y = i64 n) (hn : n = l.length) (hl : l.length ≤ 9223372036854775807) (hA : A[i]? = some (.tok t El)) :
    OpR P ⟨d, .call ⟨.builtin .unsafeString, #[x, y], #[pt, T3]⟩, T, pos, after, g⟩ e A (S l) (A.eraseIdx i) := fun F I w ρ hI hρ => by
  have h := hx ▸ hρ x
  have e2 := rel_v (hy ▸ hρ y)
  subst hn
  generalize e1 : ρ x = v at h
  have hI2 := hI.take_at hA
  cases h with
  | rp a ad len cap p hr hpp =>
    have hex : ∀ s w', (Builtin.unsafeString_ #[pt, T3] T #[.pointer p, .int .i64 l.length]).run P w = .ok (.string s) w' → (execOp ρ ⟨d, .call ⟨.builtin .unsafeString, #[x, y], #[pt, T3]⟩, T, pos, after, g⟩).run P w = .ok (.value (.string s)) w' := fun s w' hp => by
      simp only [execOp, resolve, List.map_toArray, List.map_cons, List.map_nil, Sem.run_bind, Sem.run_pure, Result.andThen_ok, invoke, builtin, e1, e2, hp]
    by_cases h0 : l.length = 0
    · have hl0 : l = [] := List.eq_nil_of_length_eq_zero h0
      subst hl0
      refine ⟨_, .string .empty, w, I, hex _ _ ?_, .inl rfl, Ext.refl _ _, hI2.sub (List.sublist_cons_self ..), .v _⟩
      exact Go.Lib.run_unsafeString_none w _ _ _ p
    · unfold slE at hr
      generalize hcs : Enc.byte.fl l = cs at hr
      cases hr with
      | slnil k t ht => rw [byte_fl] at hcs; simp at hcs; exact absurd (by rw [hcs]; rfl) h0
      | sl k cs t' b off len cap f hk hlen hcap hst hxx hr ht =>
        obtain ⟨htk, rfl⟩ := ht t rfl
        have hcl : cs.length = l.length := by rw [← hcs, byte_fl]; simp
        have hp0 : p = some ⟨b, 0, none⟩ := by
          rcases hpp with h | h
          · exact h
          · have : len * 1 = cs.length := hlen
            omega
        subst hp0
        obtain ⟨ob, n, c, ht2, _, hh⟩ := hI2.holds _ (List.mem_cons_self ..)
        rw [htk] at ht2; cases ht2
        obtain ⟨_, hnc, arr, hca, hal, hE⟩ := hh b rfl
        have hsh := shape_obj hca hE
        obtain ⟨X, hI3⟩ := hI2.freeze_tok (m := l.length) htk
        refine ⟨_, .string ⟨l.toArray⟩, _, I, hex _ _ ?_, .inl rfl, X, hI3, .v _⟩
        refine Go.Lib.run_unsafeString_row w _ _ _ _ hp hc1 _ _ hsh l (fun h => h0 (by rw [h]; rfl)) (by omega) hl fun j c hj => ?_
        have hjl : j < l.length := (List.getElem?_eq_some_iff.1 hj).1
        have h1 := hxx j (by omega)
        have h2 := hr j (by omega)
        rw [addr_add]
        rw [h1]
        have h3 : cs[j]'(by omega) = u8 c := by
          have : cs[j]? = some (u8 c) := by rw [← hcs, byte_fl]; simp [hj]
          exact (List.getElem?_eq_some_iff.1 this).2
        rw [h3] at h2
        exact congrArg some (rel_v h2)

/-- A new object, and what kind of elements it was made for. -/
theorem opX_allocT {zs : List Value} {T2 : TypeId} (hz : zeroCells P T = some zs) : OpX P ⟨d, .alloc T, T2, pos, after, g⟩ e A (fun av A' => ∃ o, av = .pt o 0 ∧ A' = .obj o (zs.map AV.v) :: .ty o T :: A) := fun F I w ρ hI hρ => by
  obtain ⟨o, ho⟩ := hI.fresh_obj
  obtain ⟨z, hrun, rfl⟩ := run_zeroValue hz w
  have hI' := hI.alloc_obj ho T (relL_vals z.cells.toList)
  have hty : (Chunk.ty o T).Holds (I.putObj o w.heap.size) (w.alloc (.cells z.cells.toList.toArray T)) := ⟨w.heap.size, by simp [Info.putObj], _, _, heap_alloc_eq _ _⟩
  have hI2 : Inv (I.putObj o w.heap.size) (.ty o T :: .obj o (z.cells.toList.map AV.v) :: (A ++ F)) (w.alloc (.cells z.cells.toList.toArray T)) := Inv.cons hI' hty (fun b hb => by cases hb)
  refine ⟨_, .pointer (some ⟨w.heap.size, 0, none⟩), _, _, _, _, ?_, .inl rfl, hI.new_obj ho _, hI2.perm (List.Perm.swap _ _ _), .pt o 0 _ (by simp [Info.putObj]), o, rfl, rfl⟩
  simp only [execOp, Instr.alloc, newVar, newRow, Sem.run_bind, Sem.run_pure, hrun, run_newObj_alloc, Result.andThen_ok]

/-- What a call leaves may be read as another state. -/
theorem ACalls.conv {f : FuncId} {args : List AV} {R R' : AE → List Chunk → Prop} (h : ACalls P f args A R) (hc : ∀ ae A', R ae A' → ∀ F I w, Inv I (A' ++ F) w → ∃ I' A'', Ext I w I' w ∧ Inv I' (A'' ++ F) w ∧ R' ae A'') : ACalls P f args A R' := fun F I w vs hI hv =>
  (h F I w vs hI hv).mono fun e w' ⟨I1, ae, A', E, hI1, hre, hR⟩ => by
    obtain ⟨I2, A'', E2, hI2, hR2⟩ := hc ae A' hR F I1 w' hI1
    refine ⟨I2, ae, A'', E.trans E2, hI2, ?_, hR2⟩
    cases ae with
    | ret v => cases e with
      | returned u => exact Rel.mono E2 hre
      | panicked c => exact hre.elim
      | outgrown => exact hre.elim
    | pan c => cases e with
      | returned u => exact hre.elim
      | panicked c' => exact hre
      | outgrown => exact hre.elim

theorem Inv.nil_row {o : Nat} {cs : List AV} (hI : Inv I (.obj o cs :: A) w) (j k : Nat) (Ty : TypeId) (hj : cs[j]? = some (.v (.slice none 0 0))) :
    ∃ I' t, Ext I w I' w ∧ Inv I' (.tok t Ty :: .obj o (cs.set j (.sl k [] (some t))) :: A) w := by
  obtain ⟨t, ht⟩ := hI.fresh_tok
  obtain ⟨E, hI'⟩ := hI.nil_tok ht Ty
  refine ⟨I.nilTok t, t, E, ?_⟩
  have hp : Inv (I.nilTok t) (.obj o cs :: .tok t Ty :: A) w := hI'.perm (List.Perm.swap _ _ _)
  have hK : Inv (I.nilTok t) (.obj o (cs.set j (.sl k [] (some t))) :: .tok t Ty :: A) w := by
    refine Inv.cons (hp.sub (List.sublist_cons_self ..)) ?_ (fun b hb d hd e => ?_)
    · obtain ⟨b, arr, ho, he, hc, hr⟩ := hp.holds _ (List.mem_cons_self ..)
      refine ⟨b, arr, ho, he, hc, by simp [hr.1], fun i hi => ?_⟩
      have hi' : i < cs.length := by simpa using hi
      by_cases hij : j = i
      · subst hij
        simp only [List.getElem_set_self]
        have := hr.2 j hi'
        have hcj : cs[j] = .v (.slice none 0 0) := (List.getElem?_eq_some_iff.1 hj).2
        rw [hcj] at this
        generalize arr.getD j undef = x at this
        cases this
        exact .slnil k t (by simp [Info.nilTok])
      · rw [List.getElem_set_ne hij]; exact hr.2 i hi'
    · exact hp.apart (c := .obj o cs) (b := b) hb d hd e
  exact hK.perm (List.Perm.swap _ _ _)
end
end Go.Av
