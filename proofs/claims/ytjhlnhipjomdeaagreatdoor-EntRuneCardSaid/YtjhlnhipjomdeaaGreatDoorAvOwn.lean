/-
  Rows of one's own: written in place, grown, and at last still. No program is spoken of.
-/
import Derived.Test.YtjhlnhipjomdeaaGreatDoorAvN
import Derived.Test.YtjhlnhipjomdeaaGreatDoorAvH
set_option linter.unusedVariables false
set_option linter.unusedSimpArgs false
namespace Go.Av
open Go.RowKit Go.Pv

/-- The first n cells of a block stand still from now on. -/
def Info.stillN (I : Info) (b n : Nat) : Info := { I with ext := fun x => if x = b then some n else I.ext x }

theorem Inv.other {I : Info} {A : List Chunk} {w : World} {c : Chunk} {b : Nat} (h : Inv I (c :: A) w) (hc : c.blk I = some b) : ∀ d ∈ A, ∀ b', d.blk I = some b' → b' ≠ b := by
  intro d hd b' hb' e
  subst e
  have hn := h.nodup
  rw [List.filterMap_cons, hc] at hn
  exact (List.nodup_cons.1 hn).1 (List.mem_filterMap.2 ⟨d, hd, hb'⟩)

/-- An object whose first cells stand still is none any more. -/
theorem Inv.freeze {I : Info} {A : List Chunk} {w : World} {o : Nat} {cs : List AV} (h : Inv I (.obj o cs :: A) w) (n : Nat) (hn : n ≤ cs.length) :
    ∃ I', Ext I w I' w ∧ Inv I' A w ∧ ∀ cap v, n ≤ cap → Rel I w (.vw o 0 n cap) v → Rel I' w (.sl 1 (cs.take n) none) v := by
  obtain ⟨b, arr, ho, he, hca, hrl⟩ := h.holds _ (List.mem_cons_self ..)
  have hbl : (Chunk.obj o cs).blk I = some b := ho
  have E : Ext I w (I.stillN b n) w := by
    refine ⟨rfl, rfl, rfl, Nat.le_refl _, fun b' hb' => ⟨rfl, ?_⟩, fun _ _ _ => rfl, fun b' m hs => ?_, fun _ _ x => x, fun _ _ x => x, fun _ _ x => x⟩
    · simp only [Info.stillN]
      rw [if_neg]
      · exact hb'
      · rintro rfl; rw [he] at hb'; cases hb'
    · intro q hq
      simp only [Info.stillN] at hq
      by_cases e : b' = b
      · subst e
        have := hs 0 he
        omega
      · rw [if_neg e] at hq; exact hs q hq
  refine ⟨I.stillN b n, E, ?_, ?_⟩
  · have hA : Inv I A w := h.sub (List.sublist_cons_self ..)
    refine hA.keep E (fun c hc b' hb' => ⟨rfl, ?_⟩) (fun b' hb' => ?_) h.ids
    · simp only [Info.stillN]; rw [if_neg (h.other hbl c hc b' hb')]
    · have hlt := hca.lt
      simp only [Info.stillN]; rw [if_neg (by omega)]; exact h.fresh b' hb'
  · intro cap v hcap hv
    cases hv with
    | vw o off len cap b' ho' =>
      rw [ho] at ho'; cases ho'
      have hlen : arr.length = cs.length := hrl.1
      have htk : (cs.take n).length = n := by simp; omega
      refine .sl 1 _ none b 0 n cap (fun j => arr.getD j undef) Nat.one_pos (by rw [htk, Nat.mul_one]) hcap ?_ ?_ ?_ (fun t' e => by cases e)
      · intro q hq
        simp only [Info.stillN, if_true, Option.some.injEq] at hq
        omega
      · intro j hj
        rw [Nat.zero_add, hca.cell, List.getD, List.getElem?_eq_getElem (by omega)]; rfl
      · intro j hj
        have := (hrl.2 j (by omega)).mono E
        simpa using this

section
variable {P : Program} {ro : Option Nat} {N : Nat} {Q : Post}
/-- A row of one's own is one that stands still, from now on. -/
theorem AW.freeze_row {c : Code} {e : Env} {ds : List ADef} {A A' : List Chunk} {α : Type} {E : Enc α} {l : List α} {o m cap : Nat} (i : Nat) (hk : E.k = 1) (hi : ev e i = .vw o 0 l.length cap) (hcap : cap = l.length + m) (hp : A.Perm (.obj o (E.fl l ++ List.replicate m .any) :: A'))
    (h : AW P ro N c Q ⟨(i, slE E l none) :: e, ds, A'⟩) : AW P ro N c Q ⟨e, ds, A⟩ := fun F I w a hI hS => by
  have hfl : (E.fl l).length = l.length := by rw [E.fl_length, hk, Nat.mul_one]
  have hI2 : Inv I (.obj o (E.fl l ++ List.replicate m .any) :: (A' ++ F)) w := hI.perm (hp.append_right F)
  obtain ⟨I', X, hI', hrel⟩ := hI2.freeze l.length (by simp [hfl])
  have hS' := hS.mono X
  refine wpIn_mono (h F I' w a hI' ⟨hS.size, fun j => ?_, hS'.ds⟩) fun _ _ _ => CQ.mono X fun _ _ h => h
  have hj := hS'.env j
  simp only [ev]
  cases hb : Nat.beq i j with
  | false => exact hj
  | true =>
    have := Nat.eq_of_beq_eq_true hb
    subst this
    have hj0 := hS.env i
    simp only [hi] at hj0
    simp only
    have := hrel cap _ (by omega) hj0
    have e2 : (E.fl l ++ List.replicate m AV.any).take l.length = E.fl l := by rw [← hfl]; simp
    rw [e2] at this
    unfold slE
    rw [hk]
    exact this
end

section
variable {P : Program} {e : Env} {d : Option Nat} {T : TypeId} {pos : String} {after : Array Edge} {g : Option (Nat × Bool)} {x y z : Operand} {av : AV} {A : List Chunk}
/-- A slice literal, as a row of one's own. -/
theorem opX_buildRow {α : Type} {E : Enc α} {l : List α} {El bytes : Nat} {parts : Array (Nat × Operand)} {xs : List Operand} {T2 n : Nat} (hT : P.underlying T = some (.slice El)) (hE : elemInfo P El = some (1, bytes)) (hk : E.k = 1) (hn : xs.length = n) (hp : parts = ((List.range' 0 xs.length).zip xs).toArray) (hlt : n ≤ 16777216)
    (hcs : xs.map (opv e) = E.fl l) : OpX P ⟨d, .buildSlice T n parts, T2, pos, after, g⟩ e A (fun av A' => ∃ o, av = .vw o 0 l.length (l.length + 0) ∧ A' = .obj o (E.fl l ++ List.replicate 0 .any) :: A) := fun F I w ρ hI hρ => by
  obtain ⟨o, ho⟩ := hI.fresh_obj
  have hrl : RelL I w (E.fl l) (xs.map ρ) := by rw [← hcs]; exact RelL.map _ _ _ fun x _ => hρ x
  have hll : xs.length = l.length := by
    have h1 := congrArg List.length hcs
    rw [List.length_map, E.fl_length, hk, Nat.mul_one] at h1; exact h1
  have hex : (execOp ρ ⟨d, .buildSlice T n parts, T2, pos, after, g⟩).run P w = .ok (.value (.slice (some ⟨w.heap.size, 0, none⟩) xs.length xs.length)) (w.alloc (.cells (xs.map ρ).toArray El)) := opR_buildSlice_run hT hE hn hp hlt hcs (E.fl_cell l) hρ
  have X := hI.new_obj ho (.cells (xs.map ρ).toArray El (0, 0))
  have hrl2 : RelL I w (E.fl l ++ List.replicate 0 .any) (xs.map ρ) := by simpa using hrl
  have hI' := hI.alloc_objF ho El (0, 0) hrl2 (.inl rfl)
  refine ⟨_, _, _, _, _, _, hex, .inl rfl, X, hI', ?_, o, rfl, rfl⟩
  rw [hll]
  exact .vw o 0 _ _ _ (by simp [Info.putObj])
end

section
variable {P : Program} {I : Info} {w : World}
/-- **Append to a row of one's own.** -/
theorem run_append_row {A : List Chunk} {T T2 El : TypeId} {D2 : TypeDesc} {bytes n m pad o : Nat} {cs ms : List AV} {v u : Value} {ty : TypeId}
    (hT : P.underlying T = some (.slice El)) (hT2 : P.underlying T2 = some D2) (hD2 : intDesc D2 = false) (hE : elemInfo P El = some (1, bytes))
    (hI : Inv I (.obj o (cs ++ List.replicate pad .any) :: A) w) (hv : Rel I w (.vw o 0 n (n + pad)) v) (hn : cs.length = n) (hu : Src P I w 1 u ms m) (hcell : ∀ c ∈ ms, isCell c = true) (hb : (n + m) * bytes ≤ 140737488355328) (hs : n + m ≤ 140737488355328) :
    ∃ v' w' I' o' pad', (Builtin.append_ #[T, T2] ty #[v, u]).run P w = .ok v' w' ∧ Ext I w I' w' ∧ Inv I' (.obj o' (cs ++ ms ++ List.replicate pad' .any) :: A) w' ∧ Rel I' w' (.vw o' 0 (n + m) (n + m + pad')) v' := by
  obtain ⟨i, z, hi, hz, hzs, hsz, hby⟩ := elemInfo_parts hE
  have hu' := hu
  obtain ⟨xs, hml, hrl, hlen, hfirst⟩ := hu
  rw [Nat.mul_one] at hml
  have hxl : xs.length = m := by rw [hrl.1, hml]
  have hcz : cellsAt P El = some 1 := by simp only [cellsAt, hi, Option.map_some, hsz]
  obtain ⟨b, arr, ho, he, hca, hr0⟩ := hI.holds _ (List.mem_cons_self ..)
  cases hv with
  | vw o off len cap b' ho' =>
    rw [ho] at ho'; cases ho'
    have hal : arr.length = n + pad := by rw [hr0.1]; simp [hn]
    by_cases hfit : n + m ≤ n + pad
    · obtain ⟨E, hI3⟩ := Inv.set_all ms xs n _ w hI ho hrl (by simp [hn, hml]; omega)
      have hst := run_storeObj (P := P) hI ho hrl hcell (off := n) (by simp [hn, hml]; omega)
      have hset : setAll (cs ++ List.replicate pad AV.any) n ms = cs ++ ms ++ List.replicate (pad - m) AV.any := by
        unfold setAll
        subst hn
        have h1 : (cs ++ List.replicate pad AV.any).take cs.length = cs := by simp
        have h2 : (cs ++ List.replicate pad AV.any).drop (cs.length + ms.length) = List.replicate (pad - m) AV.any := by
          rw [← List.drop_drop, List.drop_left, List.drop_replicate, hml]
        rw [h1, h2]
      rw [hset] at hI3
      refine ⟨.slice (some ⟨b, 0, none⟩) (n + m) (n + pad), _, I, o, pad - m, ?_, E, hI3, ?_⟩
      · cases D2 <;> cases hD2
        all_goals
          simp only [Builtin.append_, List.getElem?_toArray, List.getElem?_cons_zero, List.getElem?_cons_succ, run_underlying hT, run_underlying hT2, Sem.run_bind, Sem.run_pure, Result.andThen_ok, run_sizeOf hcz, hlen, Bool.false_eq_true, if_false]
          rw [if_pos hfit]
          simp only [Sem.run_bind, hfirst w (fun _ _ _ => rfl), Bool.not_false, if_true, Result.andThen_ok, Sem.run_pure, addr_add, Nat.zero_add, Nat.mul_one, hst]
      · rw [show n + m + (pad - m) = n + pad by omega]
        exact .vw o 0 _ _ b ho
    · have hold : ∀ w', (∀ b j, w'.cell? ⟨b, j, none⟩ = w.cell? ⟨b, j, none⟩) → (Builtin.firstCells 1 n (.slice (some ⟨b, 0, none⟩) n (n + pad))).run P w' = .ok (arr.take n).toArray w' := by
        intro w' hw
        refine run_firstCells_some _ 1 n _ _ _ _ (by simp [hal]) (fun j v hj => ?_)
        rw [addr_add, hw, hca.cell, Nat.zero_add]
        have hjn : j < (arr.take n).length := (List.getElem?_eq_some_iff.1 hj).1
        rw [← hj, List.getElem?_take]
        rw [if_pos (by simp at hjn; omega)]
      have hcapn : n + pad < n + m := by omega
      obtain ⟨o', hno⟩ := hI.fresh_obj
      have hge := grownCap_ge w (n + m) (n + pad) El
      generalize hg : grownCap w (n + m) (n + pad) El = c at hge
      have hch : (choose (.appendCap (n + m) (n + pad) El)).run P w = .ok c w.drew := by
        rw [run_choose_drew, ← hg]
        rfl
      have hfit2 : ¬ (Builtin.nextslicecap (n + m) (n + pad) * i.bytes > 2 ^ 48) := by
        have := growslice_fits (need := n + m) (old := n + pad) (bytes := i.bytes) (by omega) (by rw [hby]; exact hb)
        omega
      have hID := hI.drew
      have hdrop : Inv I A w.drew := hID.sub (List.sublist_cons_self ..)
      have hzl : (Builtin.zeroCells z.cells (c - (n + m))).size = c - (n + m) := by rw [size_zeroCells, hzs, Nat.mul_one]
      have htake : RelL I w cs (arr.take n) := by
        refine ⟨by simp [hn, hal], fun j hj => ?_⟩
        have := hr0.2 j (by simp; omega)
        rw [List.getElem_append_left hj] at this
        have e2 : (arr.take n).getD j undef = arr.getD j undef := by
          simp only [List.getD, List.getElem?_take]
          rw [if_pos (by omega)]
        rw [e2]; exact this
      have hall : RelL I w (cs ++ ms ++ List.replicate (c - (n + m)) .any) (arr.take n ++ xs ++ (Builtin.zeroCells z.cells (c - (n + m))).toList) := by
        refine RelL.append (RelL.append htake hrl) ⟨by simp [hzl], fun j hj => ?_⟩
        simp only [List.getElem_replicate]; exact .any _
      have X := hdrop.new_obj hno (.cells (arr.take n ++ xs ++ (Builtin.zeroCells z.cells (c - (n + m))).toList).toArray El (0, 0))
      have hI' := hdrop.alloc_objF hno El (0, 0) (hall.mono (Ext.drew I w)) (.inl rfl)
      refine ⟨.slice (some ⟨w.drew.heap.size, 0, none⟩) (n + m) c, _, _, o', c - (n + m), ?_, (Ext.drew I w).trans X, hI', ?_⟩
      · have hti : (typeInfo El).run P w = .ok i w := by simp [typeInfo, program, hi, Sem.run]
        have hti2 : (typeInfo El).run P w.drew = .ok i w.drew := by simp [typeInfo, program, hi, Sem.run]
        have hzv : (zeroValue El).run P w.drew = .ok z w.drew := by simp only [zeroValue, Sem.run_bind, hti2, Result.andThen_ok, hz, Sem.run_pure]
        have hroom : (askRoom (c * i.bytes)).run P w.drew = .ok () w.drew := by unfold askRoom; split <;> rfl
        have hcf : (choose (.appendCap (n + m) (n + pad) El)).run P w = .ok c w.drew := hch
        have hm : IntKind.i64.max = 9223372036854775807 := by decide
        have heq : (arr.take n).toArray ++ xs.toArray ++ Builtin.zeroCells z.cells (c - (n + m)) = (arr.take n ++ xs ++ (Builtin.zeroCells z.cells (c - (n + m))).toList).toArray := by apply Array.ext'; simp
        cases D2 <;> cases hD2
        all_goals
          simp only [Builtin.append_, List.getElem?_toArray, List.getElem?_cons_zero, List.getElem?_cons_succ, run_underlying hT, run_underlying hT2, Sem.run_bind, Sem.run_pure, Result.andThen_ok, run_sizeOf hcz, hlen, Bool.false_eq_true, if_false]
          rw [if_neg (show ¬ n + m ≤ n + pad by omega)]
          simp only [false_or, Sem.run_bind, hti, Result.andThen_ok]
          rw [if_neg (show ¬ (((n + m : Nat) : Int) > IntKind.i64.max ∧ i.bytes = 0) by omega)]
          simp only [Sem.run_bind, hti, Result.andThen_ok, Sem.run_pure]
          rw [if_neg hfit2]
          simp only [Sem.run_bind, hti2, hcf, Result.andThen_ok, Sem.run_pure, hroom, hold w.drew (fun _ _ => rfl), hfirst w.drew (fun _ _ _ => rfl), Bool.not_false, if_true, hzv, newRow, run_newObj_alloc]
          rw [heq]
      · rw [show n + m + (c - (n + m)) = c by omega]
        exact .vw o' 0 _ _ _ (by simp [Info.putObj])
end

section
variable {P : Program} {e : Env} {d : Option Nat} {T : TypeId} {pos : String} {after : Array Edge} {g : Option (Nat × Bool)} {x y z : Operand} {av : AV} {A : List Chunk}
/-- 'append' to a row of one's own. -/
theorem opX_append_row {α : Type} {E : Enc α} {l m : List α} {t2 : Option Nat} {El T2 T3 bytes o pad : Nat} {D2 : TypeDesc} (i : Nat) (hT : P.underlying T = some (.slice El)) (hT2 : P.underlying T2 = some D2) (hD2 : intDesc D2 = false) (hE : elemInfo P El = some (1, bytes)) (hk : E.k = 1)
    (hx : opv e x = .vw o 0 l.length (l.length + pad)) (hy : opv e y = slE E m t2) (hA : A[i]? = some (.obj o (E.fl l ++ List.replicate pad .any))) (hb : (l.length + m.length) * bytes ≤ 140737488355328) (hs : l.length + m.length ≤ 140737488355328) :
    OpX P ⟨d, .call ⟨.builtin .append, #[x, y], #[T, T2]⟩, T3, pos, after, g⟩ e A (fun av A' => ∃ o' pad', av = .vw o' 0 (l ++ m).length ((l ++ m).length + pad') ∧ A' = A.set i (.obj o' (E.fl (l ++ m) ++ List.replicate pad' .any))) := fun F I w ρ hI hρ => by
  have hfl : (E.fl l).length = l.length := by rw [E.fl_length, hk, Nat.mul_one]
  have hsrc := src_sl (hy ▸ hρ y) (P := P)
  rw [hk] at hsrc
  obtain ⟨v', w', I', o', pad', h1, h2, h3, h4⟩ := run_append_row (ty := T3) hT hT2 hD2 hE (hI.take_at hA) (hx ▸ hρ x) hfl hsrc (E.fl_cell m) hb hs
  rw [← E.fl_append] at h3
  rw [← List.length_append] at h4
  exact ⟨_, v', w', I', _, _, exec_append h1, .inl rfl, h2, Inv.put_at hA h3, h4, o', pad', rfl, rfl⟩
end

theorem strs_fl (l : List (List UInt8)) : Enc.str.fl l = l.map fun s => S s := by
  induction l with
  | nil => rfl
  | cons c r ih => rw [Enc.fl_cons, ih]; rfl
theorem rows_at {l : List (List UInt8)} {n m : Nat} (h : m < l.length) : (Enc.str.fl l ++ List.replicate n AV.any)[m]? = some (S (at_ l (m : Int))) := by
  rw [strs_fl, List.getElem?_append_left (by simpa using h)]
  simp [at_, h]
theorem rows_set {l : List (List UInt8)} {n m : Nat} {c : List UInt8} (h : m < l.length) : (Enc.str.fl l ++ List.replicate n AV.any).set m (S c) = Enc.str.fl (l.set m c) ++ List.replicate n AV.any := by
  rw [strs_fl, strs_fl, List.set_append_left _ _ (by simpa using h)]
  simp [List.map_set]
section
variable {P : Program} {e : Env} {d : Option Nat} {T T2 : TypeId} {pos : String} {after : Array Edge} {g : Option (Nat × Bool)} {x y z : Operand} {av : AV} {A : List Chunk}
theorem g_load_rows {l : List (List UInt8)} {o n k : Nat} {i : Int} {c : List UInt8} {D : TypeDesc} (hT : P.underlying T = some D) (hD : aggDesc D = false) (hx : opv e x = .pt o i.toNat) (hA : A[k]? = some (.obj o (Enc.str.fl l ++ List.replicate n .any))) (hg : okAt i l.length = true) (he : at_ l i = c) :
    OpR P ⟨d, .load T x, T2, pos, after, g⟩ e A (S c) A := by
  obtain ⟨h1, h2⟩ := okAt_s hg
  refine opR_load_pt hT hD hx hA ?_
  rw [rows_at (by omega), ← he, Int.toNat_of_nonneg h1]
theorem g_store_rows {l r : List (List UInt8)} {o n k : Nat} {i : Int} {c : List UInt8} (hsz : cellsAt P T = some 1) (hx : opv e x = .pt o i.toNat) (hy : opv e y = S c) (hA : A[k]? = some (.obj o (Enc.str.fl l ++ List.replicate n .any))) (hg : okAt i l.length = true) (he : l.set i.toNat c = r) :
    OpR P ⟨d, .store T x y, T2, pos, after, g⟩ e A .any (A.set k (.obj o (Enc.str.fl r ++ List.replicate n .any))) := by
  obtain ⟨h1, h2⟩ := okAt_s hg
  have := opR_store_pt (P := P) (d := d) (pos := pos) (after := after) (g := g) (T2 := T2) (i := k) hsz hx hy rfl hA (by simp [strs_fl]; omega)
  rwa [rows_set (by omega), he] at this
end

section
variable {P : Program} {e : Env} {d : Option Nat} {T : TypeId} {pos : String} {after : Array Edge} {g : Option (Nat × Bool)} {x y z : Operand} {av : AV} {A : List Chunk}
theorem g_append_row {α : Type} {E : Enc α} {l m u : List α} {t2 : Option Nat} {El T2 T3 bytes o pad len : Nat} {D2 : TypeDesc} (i : Nat) (hT : P.underlying T = some (.slice El)) (hT2 : P.underlying T2 = some D2) (hD2 : intDesc D2 = false) (hE : elemInfo P El = some (1, bytes)) (hb : Nat.ble bytes 1000 = true) (hk : E.k = 1)
    (hx : opv e x = .vw o 0 len (len + pad)) (hl : decide (l.length = len) = true) (hy : opv e y = slE E m t2) (hA : A[i]? = some (.obj o (E.fl l ++ List.replicate pad .any))) (hg : okCat (l.length + m.length) = true) (he : l ++ m = u) :
    OpX P ⟨d, .call ⟨.builtin .append, #[x, y], #[T, T2]⟩, T3, pos, after, g⟩ e A (fun av A' => ∃ o' pad', av = .vw o' 0 u.length (u.length + pad') ∧ A' = A.set i (.obj o' (E.fl u ++ List.replicate pad' .any))) := by
  have hl := of_decide_eq_true hl
  subst hl he
  have hc := okCat_s hg
  have hb' : bytes ≤ 1000 := Nat.le_of_ble_eq_true hb
  exact opX_append_row i hT hT2 hD2 hE hk hx hy hA (Nat.le_trans (Nat.mul_le_mul hc hb') (by decide)) (by omega)
end

theorem perm_front {α : Type} {l : List α} {c : α} (j : Nat) (h : l[j]? = some c) : l.Perm (c :: l.eraseIdx j) := by
  induction l generalizing j with
  | nil => simp at h
  | cons a r ih =>
    cases j with
    | zero => simp at h; subst h; exact List.Perm.refl _
    | succ j => exact ((ih j (by simpa using h)).cons a).trans (List.Perm.swap _ _ _)
section
variable {P : Program} {ro : Option Nat} {N : Nat} {Q : Post}
theorem AW.freeze_rowG {c : Code} {e : Env} {ds : List ADef} {A A' : List Chunk} {α : Type} {E : Enc α} {l : List α} {o m len cap : Nat} (i : Nat) (hk : E.k = 1) (hi : ev e i = .vw o 0 len cap) (hl : l.length = len) (hcap : cap = len + m) (hp : A.Perm (.obj o (E.fl l ++ List.replicate m .any) :: A'))
    (h : AW P ro N c Q ⟨(i, slE E l none) :: e, ds, A'⟩) : AW P ro N c Q ⟨e, ds, A⟩ := by
  subst hl
  exact AW.freeze_row i hk hi hcap hp h
end
end Go.Av
