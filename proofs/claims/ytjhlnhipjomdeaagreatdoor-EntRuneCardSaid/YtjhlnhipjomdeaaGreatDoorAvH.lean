/-
  Jumps within a scope, rows that are written in place, and more that printed walks use. No program is spoken of.
-/
import Derived.Test.YtjhlnhipjomdeaaGreatDoorAvG
import Derived.ScopeJumps
set_option linter.unusedVariables false
set_option linter.unusedSimpArgs false
namespace Go.Av
open Go.RowKit Go.Pv

section
variable {P : Program} {ro : Option Nat} {N : Nat} {Q : Post} {s : St}

/-- From one of several states on. -/
theorem AW.gen {X : Type} (st : X → St) (ok : X → Prop) {c : Code} (x₀ : X) (h₀ : ok x₀) (k₀ : WK N s (st x₀)) (h : ∀ x, ok x → AW P ro N c Q (st x)) : AW P ro N c Q s := AW.weaken k₀ (h x₀ h₀)

/-- As Q; by a goto to label l: J. -/
def Jmp (l : Nat) (J : St → Prop) (Q : Post) : Post
  | .goto l', s => l' = l ∧ J s
  | e, s => Q e s

theorem least (p : Nat → Prop) : ∀ n, p n → ∃ m, p m ∧ ∀ k, k < m → ¬ p k := by
  intro n
  induction n using Nat.strongRecOn with
  | _ n ih =>
    intro h
    by_cases hk : ∃ k, k < n ∧ p k
    · obtain ⟨k, h1, h2⟩ := hk; exact ih k h1 h2
    · exact ⟨n, h, fun k h1 h2 => hk ⟨k, h1, h2⟩⟩

theorem AW.jumps {X : Type} (l : Nat) (st : X → St) (ok : X → Prop) (μ : X → Nat) {c rest : Code} (hf : findLabel c l = some rest)
    (h : AW P none N c (Jmp l (fun s' => ∃ x, ok x ∧ WK N s' (st x)) Q) s)
    (pass : ∀ x, ok x → AW P none N rest (Jmp l (fun s' => ∃ x', ok x' ∧ μ x' < μ x ∧ WK N s' (st x')) Q) (st x)) : AW P none N (.scope c) Q s := fun F I w a hI hS => by
  let R : Nat → Act → World → Prop := fun n a' w' => ∃ x I', ok x ∧ μ x = n ∧ Ext I w I' w' ∧ Inv I' ((st x).A ++ F) w' ∧ RelS N I' w' (st x) a'
  classical
  let m : Act → World → Nat := fun a' w' => if h : ∃ n, R n a' w' then Classical.choose (least (fun n => R n a' w') _ (Classical.choose_spec h)) else 0
  have hm : ∀ a' w' n, R n a' w' → R (m a' w') a' w' ∧ m a' w' ≤ n := fun a' w' n hn => by
    have hx : ∃ n, R n a' w' := ⟨n, hn⟩
    have h2 := Classical.choose_spec (least (fun n => R n a' w') _ (Classical.choose_spec hx))
    show R (if h : ∃ n, R n a' w' then _ else 0) a' w' ∧ (if h : ∃ n, R n a' w' then _ else 0) ≤ n
    rw [dif_pos hx]
    exact ⟨h2.1, Nat.le_of_not_lt fun hlt => h2.2 _ hlt hn⟩
  refine (wpIn_wide (n := 0)).2 (wp_scope_jumps (J := fun a' w' => ∃ n, R n a' w') l (μ := m) hf ?_ ?_)
  · refine wp_mono ((wpIn_wide (n := 0)).1 (h F I w a hI hS)) fun e a' w' hq => ?_
    obtain ⟨I', s', E, hI', hS', hq⟩ := hq
    cases e with
    | goto l' =>
      obtain ⟨rfl, x, hx, hk⟩ := hq
      obtain ⟨I2, E2, hI2, hS2⟩ := hk F I' w' a' hI' hS'
      exact ⟨rfl, _, x, I2, hx, rfl, E.trans E2, hI2, hS2⟩
    | _ => exact ⟨I', s', E, hI', hS', hq⟩
  · intro a1 w1 hJ
    obtain ⟨n, hn⟩ := hJ
    obtain ⟨⟨x, I1, hx, hmx, E1, hI1, hS1⟩, _⟩ := hm a1 w1 n hn
    refine wp_mono ((wpIn_wide (n := 0)).1 (pass x hx F I1 w1 a1 hI1 hS1)) fun e a' w' hq => ?_
    obtain ⟨I', s', E, hI', hS', hq⟩ := hq
    cases e with
    | goto l' =>
      obtain ⟨rfl, x', hx', hlt, hk⟩ := hq
      obtain ⟨I2, E2, hI2, hS2⟩ := hk F I' w' a' hI' hS'
      have hR : R (μ x') a' w' := ⟨x', I2, hx', rfl, (E1.trans E).trans E2, hI2, hS2⟩
      exact ⟨rfl, ⟨_, hR⟩, by have := (hm a' w' _ hR).2; omega⟩
    | _ => exact ⟨I', s', E1.trans E, hI', hS', hq⟩

/-- A nil slice in an object, wherever that stands, may grow from now on. -/
theorem AW.nil_objAt {c : Code} {e : Env} {ds : List ADef} {A : List Chunk} {o : Nat} {cs : List AV} (i j k : Nat) (Ty : TypeId) (hA : A[i]? = some (.obj o cs)) (hj : cs[j]? = some (.v (.slice none 0 0)))
    (h : ∀ t, AW P ro N c Q ⟨e, ds, .tok t Ty :: A.set i (.obj o (cs.set j (.sl k [] (some t))))⟩) : AW P ro N c Q ⟨e, ds, A⟩ := by
  have hp := perm_at A i _ hA
  refine AW.weaken (s' := ⟨e, ds, .obj o cs :: A.eraseIdx i⟩) (fun F I w a hI hS => ⟨I, Ext.refl _ _, hI.perm (hp.append_right F), hS.size, hS.env, hS.ds⟩) (AW.nil_obj j k Ty hj fun t => ?_)
  refine AW.weaken (s' := ⟨e, ds, .tok t Ty :: A.set i (.obj o (cs.set j (.sl k [] (some t))))⟩) (fun F I w a hI hS => ⟨I, Ext.refl _ _, ?_, hS.size, hS.env, hS.ds⟩) (h t)
  refine hI.perm ((List.Perm.trans ?_ ((perm_set A i _ (.obj o (cs.set j (.sl k [] (some t)))) hA).cons (.tok t Ty))).append_right F)
  exact List.Perm.swap _ _ _
end

section
variable {P : Program} {N : Nat} {Q : Post} {ops : Array Oper}
theorem AIO.callAt {fuel : Nat} {listed : Array Bool} {d : Nat} {f : FuncId} {args : Array Operand} {argTypes : Array TypeId} {T : TypeId} {pos : String} {after : Array Edge} {g : Option (Nat × Bool)} {e : Env} {ds : List ADef} {A A1 B : List Chunk}
    {R : AE → List Chunk → Prop} {avs : List AV} (is : List Nat) (hd : Nat.blt d N = true) (hf : ∀ args w, (callFunc f args).run P w = .ok (.enter f args) w) (ha : args.toList.map (opv e) = avs)
    (h : ACalls P f avs A1 R) (p : pickL A is = some (A1, B)) (hr : ∀ c A', ¬ R (.pan c) A') (k : ∀ av A', R (.ret av) A' → AI P N ops Q fuel listed ⟨(d, av) :: e, ds, A' ++ B⟩) :
    AIO P N ops Q fuel listed ⟨some d, .call ⟨.value (.func f), args, argTypes⟩, T, pos, after, g⟩ ⟨e, ds, A⟩ :=
  AIO.call B hd hf ha h (pickL_perm is _ _ _ p) k (fun c A' h => (hr c A' h).elim)
end

/-! ### Rows of bytes that are written in place -/
theorem Inv.alloc_objF {I : Info} {A : List Chunk} {w : World} (h : Inv I A w) {o : Nat} (ho : I.obj o = none) {cs : List AV} {xs : List Value} (E : TypeId) (fz : Nat × Nat) (hr : RelL I w cs xs) (hf : fz.1 = fz.2 ∨ xs.length ≤ fz.1) :
    Inv (I.putObj o w.heap.size) (.obj o cs :: A) (w.alloc (.cells xs.toArray E fz)) := by
  have X := h.new_obj ho (.cells xs.toArray E fz)
  have hlt : ∀ c ∈ A, ∀ b, c.blk I = some b → b ≠ w.heap.size := fun c hc b hb e => by
    have := (h.holds c hc).blk_lt hb; omega
  have K : Inv (I.putObj o w.heap.size) A (w.alloc (.cells xs.toArray E fz)) := by
    refine h.keep X (fun c hc b hb => ⟨heap_alloc_ne _ _ _ (hlt c hc b hb), by simp only [Info.putObj]; rw [if_neg (hlt c hc b hb)]⟩) (fun b hb => ?_) ?_
    · simp only [World.size_alloc] at hb
      simp only [Info.putObj]; rw [if_neg (by omega)]; exact h.fresh b (by omega)
    · obtain ⟨n, hn⟩ := h.ids
      refine ⟨max n (o + 1), fun x hx => ?_⟩
      have := hn x (by omega)
      refine ⟨?_, this.2⟩
      simp only [Info.putObj]; rw [if_neg (by omega)]; exact this.1
  refine K.cons ⟨w.heap.size, xs, by simp [Info.putObj], by simp [Info.putObj], ⟨E, fz, heap_alloc_eq _ _, hf⟩, hr.mono X⟩ ?_
  intro b hb d hd e
  simp only [Chunk.blk, Info.putObj, if_true, Option.some.injEq] at hb
  have := ((h.holds d hd).keep X (fun b' hb' => ⟨heap_alloc_ne _ _ _ (hlt d hd b' hb'), by simp only [Info.putObj]; rw [if_neg (hlt d hd b' hb')]⟩)).2
  rw [this] at e
  exact hlt d hd b e hb.symm
section
variable {P : Program} {e : Env} {d : Option Nat} {T : TypeId} {pos : String} {after : Array Edge} {g : Option (Nat × Bool)} {x y z : Operand} {av : AV} {T1 T2 T' : TypeId} {A : List Chunk}

/-- A text's bytes in a row of their own. -/
theorem g_conv_str_row {s : List UInt8} {src dst El T2 : TypeId} (hs : P.underlying src = some .string) (hd : P.underlying dst = some (.slice El)) (hE : P.underlying El = some (.int .u8)) (hx : opv e x = S s) (hg : okCat s.length = true) :
    OpX P ⟨d, .convert src dst x, T2, pos, after, g⟩ e A (fun av A' => ∃ o n, av = .vw o 0 s.length (s.length + n) ∧ A' = .obj o (Enc.byte.fl s ++ List.replicate n .any) :: A) := fun F I w ρ hI hρ => by
  have e1 := rel_v (hx ▸ hρ x)
  obtain ⟨o, ho⟩ := hI.fresh_obj
  have hge := grownCap_ge w s.length 0 El
  have hsz : (⟨s.toArray⟩ : ByteArray).size = s.length := by simp [ByteArray.size]
  have hrun := run_bytes_of_string (P := P) w src dst El ⟨s.toArray⟩ hs hd hE
  rw [hsz] at hrun
  generalize grownCap w s.length 0 El = c at hge hrun
  obtain ⟨n, rfl⟩ := Nat.exists_eq_add_of_le hge
  obtain ⟨arr, harr⟩ : ∃ arr : List Value, arr = (s.map fun b => Value.int .u8 b.toNat) ++ List.replicate n (.int .u8 0) := ⟨_, rfl⟩
  have hbr : bytesRow ⟨s.toArray⟩ (s.length + n) = arr.toArray := by
    subst harr
    apply Array.ext'
    simp [bytesRow, hsz]
  have hal : arr.length = s.length + n := by subst harr; simp
  rw [hbr] at hrun
  have hID := hI.drew
  have hfz : arr.toArray.size = arr.toArray.size + 1 ∨ arr.length ≤ arr.toArray.size := .inr (by simp)
  have X := hID.new_obj ho (.cells arr.toArray El (arr.toArray.size, arr.toArray.size + 1))
  have hrl : RelL I w.drew (Enc.byte.fl s ++ List.replicate n .any) arr := by
    subst harr
    refine RelL.append ?_ ⟨by simp, fun j hj => ?_⟩
    · have : Enc.byte.fl s = s.map fun c => u8 c := byte_fl s
      rw [this]; exact RelL.map _ _ _ fun x _ => .v _
    · simp only [List.getElem_replicate]; exact .any _
  have hI' := hID.alloc_objF ho El (arr.toArray.size, arr.toArray.size + 1) hrl hfz
  refine ⟨_, .slice (some ⟨w.heap.size, 0, none⟩) s.length (s.length + n), _, _, _, _, ?_, .inl rfl, (Ext.drew I w).trans X, hI', ?_, o, n, rfl, rfl⟩
  · simp only [execOp, e1, hrun, Sem.run_bind, Result.andThen_ok, Sem.run_pure]
  · exact .vw o 0 _ _ _ (by simp only [Info.putObj, if_true]; rfl)

theorem row_at {l : List UInt8} {n : Nat} {m : Nat} (h : m < l.length) : (Enc.byte.fl l ++ List.replicate n AV.any)[m]? = some (u8 (at_ l (m : Int))) := by
  rw [byte_fl, List.getElem?_append_left (by simpa using h)]
  simp [at_, h]
theorem row_set {l : List UInt8} {n : Nat} {m : Nat} {c : UInt8} (h : m < l.length) : (Enc.byte.fl l ++ List.replicate n AV.any).set m (u8 c) = Enc.byte.fl (l.set m c) ++ List.replicate n AV.any := by
  rw [byte_fl, byte_fl, List.set_append_left _ _ (by simpa using h)]
  simp [List.map_set]
theorem g_indexAddr_row {o len cap : Nat} {q : IntKind} {i : Int} {El : TypeId} (hT : P.underlying T = some (.slice El)) (hsz : cellsAt P El = some 1) (hx : opv e x = .vw o 0 len cap) (hy : opv e y = .v (.int q i)) (hg : okAt i len = true) :
    OpS P ⟨d, .indexAddr T x y, T2, pos, after, g⟩ e (.pt o i.toNat) := by
  obtain ⟨h1, h2⟩ := okAt_s hg
  have := opS_indexAddr_vw (P := P) (d := d) (pos := pos) (after := after) (g := g) (T2 := T2) hT hsz hx hy (Int.toNat_of_nonneg h1).symm (by omega)
  simpa using this
theorem g_load_row {l : List UInt8} {o n k : Nat} {i : Int} {c : UInt8} {D : TypeDesc} (hT : P.underlying T = some D) (hD : aggDesc D = false) (hx : opv e x = .pt o i.toNat) (hA : A[k]? = some (.obj o (Enc.byte.fl l ++ List.replicate n .any))) (hg : okAt i l.length = true) (he : at_ l i = c) :
    OpR P ⟨d, .load T x, T2, pos, after, g⟩ e A (u8 c) A := by
  obtain ⟨h1, h2⟩ := okAt_s hg
  refine opR_load_pt hT hD hx hA ?_
  rw [row_at (by omega), ← he, Int.toNat_of_nonneg h1]
theorem g_store_row {l r : List UInt8} {o n k : Nat} {i : Int} {c : UInt8} (hsz : cellsAt P T = some 1) (hx : opv e x = .pt o i.toNat) (hy : opv e y = u8 c) (hA : A[k]? = some (.obj o (Enc.byte.fl l ++ List.replicate n .any))) (hg : okAt i l.length = true) (he : l.set i.toNat c = r) :
    OpR P ⟨d, .store T x y, T2, pos, after, g⟩ e A .any (A.set k (.obj o (Enc.byte.fl r ++ List.replicate n .any))) := by
  obtain ⟨h1, h2⟩ := okAt_s hg
  have := opR_store_pt (P := P) (d := d) (pos := pos) (after := after) (g := g) (T2 := T2) (i := k) hsz hx hy rfl hA (by simp [byte_fl]; omega)
  rwa [row_set (by omega), he] at this
theorem opR_conv_row_str {l : List UInt8} {o len cap n k : Nat} {src dst El : TypeId} (hs : P.underlying src = some (.slice El)) (hE : P.underlying El = some (.int .u8)) (hd : P.underlying dst = some .string) (hx : opv e x = .vw o 0 len cap)
    (hl : decide (l.length = len) = true) (hA : A[k]? = some (.obj o (Enc.byte.fl l ++ List.replicate n .any))) : OpR P ⟨d, .convert src dst x, T2, pos, after, g⟩ e A (S l) A := fun F I w ρ hI hρ => by
  have hl := of_decide_eq_true hl
  subst hl
  have h := hx ▸ hρ x
  generalize e1 : ρ x = v at h
  cases h with
  | vw o off len cap b ho =>
    obtain ⟨b', arr, ho', he, hca, hrl⟩ := hI.holds _ (mem_app hA F)
    rw [ho] at ho'; cases ho'
    have hc : (convert src dst (.slice (some ⟨b, 0, none⟩) l.length cap)).run P w = .ok (.string ⟨l.toArray⟩) w := by
      refine run_convert_bytes_back w src dst El _ cap l hs hE hd fun j hj => ?_
      have hj' : j < (Enc.byte.fl l ++ List.replicate n AV.any).length := by simp [byte_fl]; omega
      have hr := hrl.2 j hj'
      have hrow := row_at (n := n) hj
      rw [(List.getElem?_eq_some_iff.1 hrow).2] at hr
      have hv := rel_v hr
      have hja : j < arr.length := by rw [hrl.1]; exact hj'
      rw [addr_add, hca.cell]
      simp only [Nat.zero_add, List.getElem?_eq_getElem hja]
      simp only [List.getD, List.getElem?_eq_getElem hja, Option.getD_some] at hv
      rw [hv]
      simp [at_, List.getD, hj]
    refine ⟨_, _, w, I, ?_, .inl rfl, Ext.refl _ _, hI, .v (.string ⟨l.toArray⟩)⟩
    simp only [execOp, e1, hc, Sem.run_bind, Result.andThen_ok, Sem.run_pure]
end
end Go.Av
