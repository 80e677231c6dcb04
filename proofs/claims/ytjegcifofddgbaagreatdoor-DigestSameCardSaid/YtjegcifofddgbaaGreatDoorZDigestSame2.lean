/-
  Texts in one (only what DigestSame needs): AvH, AvMap, AvE, AvN, AvOwn, StrPure, PvLib, P11Lib, P11Build, P11Join, AvLaw, P11Split, P11BuildC, AvDefer, AvFn, AvCard, AvPan, AvArr, AvStill, AvLoop, AvFor, PvSl, AvHd.
-/
import Derived.Test.YtjegcifofddgbaaGreatDoorZDigestSame1
import Derived.ScopeJumps
import Derived.MapKept
import Derived.Lib.SplitLaws
import Derived.Lib.IndexMore
import Derived.Lib.Strings
import Derived.Lib.SlTrimSet
import Derived.Lib.Atoi
import Derived.Test.YtjegcifofddgbaaGreatDoorShelf
import Derived.Below
import Derived.Recover
import Derived.ProofKit
import Derived.HandedShaped
import Derived.Shelf.Vars
import Derived.LaidLaws
import Derived.LaidMore
import Derived.Stop.Joined
import Derived.MakeChecks
import Derived.LoopNIn
import Derived.Laws.MakeOwn
import Derived.RangeFuncLeaves
import Derived.RangeFuncRecord
import Derived.Lib.FieldsP
import Derived.Laws.StructEq
set_option linter.unusedVariables false
set_option linter.unusedSimpArgs false
namespace Go.Av
open Go.RowKit Go.Pv
section
variable {P : Program} {ro : Option Nat} {N : Nat} {Q : eH} {s : St}
theorem AW.gen {X : Type} (st : X → St) (ok : X → Prop) {c : Code} (x₀ : X) (h₀ : ok x₀) (k₀ : WK N s (st x₀)) (h : ∀ x, ok x → AW P ro N c Q (st x)) : AW P ro N c Q s := AW.weaken k₀ (h x₀ h₀)
def Jmp (l : Nat) (J : St → Prop) (Q : eH) : eH
  | .goto l', s => l' = l ∧ J s
  | e, s => Q e s
theorem least (p : Nat → Prop) : ∀ n, p n → ∃ m, p m ∧ ∀ k, k < m → ¬ p k := by
  intro n
  induction n using Nat.strongRecOn with
  | _ n ih =>
    intro h
    by_cases hk : ∃ k, k < n ∧ p k
    · obtain ⟨k, h1, h2⟩ := hk; exact ih k h1 h2
    · exact ⟨n, h, fun k h1 h2 => hk ⟨k, h1, h2⟩⟩
theorem AW.jumps {X : Type} (l : Nat) (st : X → St) (ok : X → Prop) (μ : X → Nat) {c rest : Code} (hf : findLabel c l = some rest)
    (h : AW P none N c (Jmp l (fun s' => ∃ x, ok x ∧ WK N s' (st x)) Q) s)
    (pass : ∀ x, ok x → AW P none N rest (Jmp l (fun s' => ∃ x', ok x' ∧ μ x' < μ x ∧ WK N s' (st x')) Q) (st x)) : AW P none N (.scope c) Q s := fun F I w a hI hS => by
  let R : Nat → Act → World → Prop := fun n a' w' => ∃ x I', ok x ∧ μ x = n ∧ Ext I w I' w' ∧ Inv I' ((st x).A ++ F) w' ∧ RelS N I' w' (st x) a'
  classical
  let m : Act → World → Nat := fun a' w' => if h : ∃ n, R n a' w' then Classical.choose (least (fun n => R n a' w') _ (Classical.choose_spec h)) else 0
  have hm : ∀ a' w' n, R n a' w' → R (m a' w') a' w' ∧ m a' w' ≤ n := fun a' w' n hn => by
    have hx : ∃ n, R n a' w' := ⟨n, hn⟩
    have h2 := Classical.choose_spec (least (fun n => R n a' w') _ (Classical.choose_spec hx))
    show R (if h : ∃ n, R n a' w' then _ else 0) a' w' ∧ (if h : ∃ n, R n a' w' then _ else 0) ≤ n
    rw [dif_pos hx]
    exact ⟨h2.1, Nat.le_of_not_lt fun hlt => h2.2 _ hlt hn⟩
  refine (wpIn_wide (n := 0)).2 (wp_scope_jumps (J := fun a' w' => ∃ n, R n a' w') l (μ := m) hf ?_ ?_)
  · refine wp_mono ((wpIn_wide (n := 0)).1 (h F I w a hI hS)) fun e a' w' hq => ?_
    obtain ⟨I', s', E, hI', hS', hq⟩ := hq
    cases e with
    | goto l' =>
      obtain ⟨rfl, x, hx, hk⟩ := hq;obtain ⟨I2, E2, hI2, hS2⟩ := hk F I' w' a' hI' hS';exact ⟨rfl, _, x, I2, hx, rfl, E.trans E2, hI2, hS2⟩
    | _ => exact ⟨I', s', E, hI', hS', hq⟩
  · intro a1 w1 hJ
    obtain ⟨n, hn⟩ := hJ;obtain ⟨⟨x, I1, hx, hmx, E1, hI1, hS1⟩, _⟩ := hm a1 w1 n hn
    refine wp_mono ((wpIn_wide (n := 0)).1 (pass x hx F I1 w1 a1 hI1 hS1)) fun e a' w' hq => ?_
    obtain ⟨I', s', E, hI', hS', hq⟩ := hq
    cases e with
    | goto l' =>
      obtain ⟨rfl, x', hx', hlt, hk⟩ := hq;obtain ⟨I2, E2, hI2, hS2⟩ := hk F I' w' a' hI' hS'
      have hR : R (μ x') a' w' := ⟨x', I2, hx', rfl, (E1.trans E).trans E2, hI2, hS2⟩
      exact ⟨rfl, ⟨_, hR⟩, by have := (hm a' w' _ hR).2; omega⟩
    | _ => exact ⟨I', s', E1.trans E, hI', hS', hq⟩
theorem AW.nil_objAt {c : Code} {e : Env} {ds : List ADef} {A : List Chunk} {o : Nat} {cs : List AV} (i j k : Nat) (Ty : TypeId) (hA : A[i]? = some (.obj o cs)) (hj : cs[j]? = some (.v (.slice none 0 0)))
    (h : ∀ t, AW P ro N c Q ⟨e, ds, .tok t Ty :: A.set i (.obj o (cs.set j (.sl k [] (some t))))⟩) : AW P ro N c Q ⟨e, ds, A⟩ := by
  have hp := mR A i _ hA
  refine AW.weaken (s' := ⟨e, ds, .obj o cs :: A.eraseIdx i⟩) (fun F I w a hI hS => ⟨I, bU _ _, hI.perm (hp.append_right F), hS.size, hS.env, hS.ds⟩) (wv j k Ty hj fun t => ?_);refine AW.weaken (s' := ⟨e, ds, .tok t Ty :: A.set i (.obj o (cs.set j (.sl k [] (some t))))⟩) (fun F I w a hI hS => ⟨I, bU _ _, ?_, hS.size, hS.env, hS.ds⟩) (h t);refine hI.perm ((List.Perm.trans ?_ ((ov A i _ (.obj o (cs.set j (.sl k [] (some t)))) hA).cons (.tok t Ty))).append_right F);exact List.Perm.swap _ _ _
abbrev _root_.Go.Av.eB := @AW.nil_objAt
end
section
variable {P : Program} {ro : Option Nat} {N : Nat} {Q : eH} {ops : Array Oper}
theorem AIO.callAt {fuel : Nat} {listed : Array Bool} {d : Nat} {f : FuncId} {args : Array Operand} {argTypes : Array TypeId} {T : TypeId} {pos : String} {after : Array Edge} {g : Option (Nat × Bool)} {e : Env} {ds : List ADef} {A A1 B : List Chunk}
    {R : AE → List Chunk → Prop} {avs : List AV} (is : List Nat) (hd : Nat.blt d N = true) (hf : ∀ args w, (callFunc f args).run P w = .ok (.enter f args) w) (ha : args.toList.map (opv e) = avs)
    (h : ACalls P f avs A1 R) (p : kT A is = some (A1, B)) (hr : ∀ c A', ¬ R (.pan c) A') (k : ∀ av A', R (.ret av) A' → AI P ro N ops Q fuel listed ⟨(d, av) :: e, ds, A' ++ B⟩) :
    AIO P ro N ops Q fuel listed ⟨some d, .call ⟨.value (.func f), args, argTypes⟩, T, pos, after, g⟩ ⟨e, ds, A⟩ :=
  AIO.call B hd hf ha h (ee is _ _ _ p) k (fun c A' h => (hr c A' h).elim)
end
theorem Inv.alloc_objF {I : Info} {A : List Chunk} {w : World} (h : Inv I A w) {o : Nat} (ho : I.obj o = none) {cs : List AV} {xs : List Value} (E : TypeId) (fz : Nat × Nat) (hr : RelL I w cs xs) (hf : fz.1 = fz.2 ∨ xs.length ≤ fz.1) :
    Inv (I.putObj o w.heap.size) (.obj o cs :: A) (w.alloc (.cells xs.toArray E fz)) := by
  have X := h.new_obj ho (.cells xs.toArray E fz)
  have hlt : ∀ c ∈ A, ∀ b, c.blk I = some b → b ≠ w.heap.size := fun c hc b hb e => by
    have := (h.holds c hc).blk_lt hb; omega
  have K : Inv (I.putObj o w.heap.size) A (w.alloc (.cells xs.toArray E fz)) := by
    refine h.keep X (fun c hc b hb => ⟨ca _ _ _ (hlt c hc b hb), by simp only [Info.putObj]; rw [if_neg (hlt c hc b hb)]⟩) (fun b hb => ?_) ?_
    · simp only [World.size_alloc] at hb
      simp only [Info.putObj]; rw [if_neg (by omega)]; exact h.fresh b (by omega)
    · obtain ⟨n, hn⟩ := h.ids
      refine ⟨max n (o + 1), fun x hx => ?_⟩
      have := hn x (by omega)
      refine ⟨?_, this.2⟩
      simp only [Info.putObj]; rw [if_neg (by omega)]; exact this.1
  refine K.cons ⟨w.heap.size, xs, by simp [Info.putObj], by simp [Info.putObj], ⟨E, fz, cc _ _, hf⟩, hr.mono X⟩ ?_;intro b hb d hd e
  simp only [Chunk.blk, Info.putObj, if_true, Option.some.injEq] at hb
  have := ((h.holds d hd).keep X (fun b' hb' => ⟨ca _ _ _ (hlt d hd b' hb'), by simp only [Info.putObj]; rw [if_neg (hlt d hd b' hb')]⟩)).2
  rw [this] at e
  exact hlt d hd b e hb.symm
section
variable {P : Program} {e : Env} {d : Option Nat} {T : TypeId} {pos : String} {after : Array Edge} {g : Option (Nat × Bool)} {x y z : Operand} {av : AV} {T1 T2 T' : TypeId} {A : List Chunk}
theorem qm {s : List UInt8} {src dst El T2 : TypeId} (hs : P.underlying src = some .string) (hd : P.underlying dst = some (.slice El)) (hE : P.underlying El = some (.int .u8)) (hx : opv e x = S s) (hg : bt s.length = true) :
    OpX P ⟨d, .convert src dst x, T2, pos, after, g⟩ e A (fun av A' => ∃ o n, av = .vw o 0 s.length (s.length + n) ∧ A' = .obj o (Enc.byte.fl s ++ List.replicate n .any) :: A) := fun F I w ρ hI hρ => by
  have e1 := bO (hx ▸ hρ x)
  obtain ⟨o, ho⟩ := hI.fresh_obj
  have hge := grownCap_ge w s.length 0 El
  have hsz : (⟨s.toArray⟩ : ByteArray).size = s.length := by simp [ByteArray.size]
  have hrun := run_bytes_of_string (P := P) w src dst El ⟨s.toArray⟩ hs hd hE
  rw [hsz] at hrun
  generalize grownCap w s.length 0 El = c at hge hrun
  obtain ⟨n, rfl⟩ := Nat.exists_eq_add_of_le hge;obtain ⟨arr, harr⟩ : ∃ arr : List Value, arr = (s.map fun b => Value.int .u8 b.toNat) ++ List.replicate n (.int .u8 0) := ⟨_, rfl⟩
  have hbr : bytesRow ⟨s.toArray⟩ (s.length + n) = arr.toArray := by
    subst harr
    apply Array.ext'
    simp [bytesRow, hsz]
  have hal : arr.length = s.length + n := by subst harr; simp
  rw [hbr] at hrun
  have hID := hI.drew
  have hfz : arr.toArray.size = arr.toArray.size + 1 ∨ arr.length ≤ arr.toArray.size := .inr (by simp)
  have X := hID.new_obj ho (.cells arr.toArray El (arr.toArray.size, arr.toArray.size + 1))
  have hrl : RelL I w.drew (Enc.byte.fl s ++ List.replicate n .any) arr := by
    subst harr;refine RelL.append ?_ ⟨by simp, fun j hj => ?_⟩
    · have : Enc.byte.fl s = s.map fun c => u8 c := eV s
      rw [this]; exact eK _ _ _ fun x _ => .v _
    · simp only [List.getElem_replicate]; exact .any _
  have hI' := hID.alloc_objF ho El (arr.toArray.size, arr.toArray.size + 1) hrl hfz
  refine ⟨_, .slice (some ⟨w.heap.size, 0, none⟩) s.length (s.length + n), _, _, _, _, ?_, .inl rfl, (Ext.drew I w).trans X, hI', ?_, o, n, rfl, rfl⟩
  · simp only [execOp, e1, hrun, Sem.run_bind, Result.andThen_ok, Sem.run_pure]
  · exact .vw o 0 _ _ _ (by simp only [Info.putObj, if_true]; rfl)
theorem row_at {l : List UInt8} {n : Nat} {m : Nat} (h : m < l.length) : (Enc.byte.fl l ++ List.replicate n AV.any)[m]? = some (u8 (at_ l (m : Int))) := by
  rw [eV, List.getElem?_append_left (by simpa using h)]
  simp [at_, h]
theorem row_set {l : List UInt8} {n : Nat} {m : Nat} {c : UInt8} (h : m < l.length) : (Enc.byte.fl l ++ List.replicate n AV.any).set m (u8 c) = Enc.byte.fl (l.set m c) ++ List.replicate n AV.any := by
  rw [eV, eV, List.set_append_left _ _ (by simpa using h)]
  simp [List.map_set]
theorem iZ {o len cap : Nat} {q : IntKind} {i : Int} {El : TypeId} (hT : P.underlying T = some (.slice El)) (hsz : bH P El = some 1) (hx : opv e x = .vw o 0 len cap) (hy : opv e y = .v (.int q i)) (hg : cD i len = true) :
    OpS P ⟨d, .indexAddr T x y, T2, pos, after, g⟩ e (.pt o i.toNat) := by
  obtain ⟨h1, h2⟩ := nR hg
  have := oQ (P := P) (d := d) (pos := pos) (after := after) (g := g) (T2 := T2) hT hsz hx hy (Int.toNat_of_nonneg h1).symm (by omega)
  simpa using this
theorem vK {l : List UInt8} {o n k : Nat} {i : Int} {c : UInt8} {D : TypeDesc} (hT : P.underlying T = some D) (hD : jw D = false) (hx : opv e x = .pt o i.toNat) (hA : A[k]? = some (.obj o (Enc.byte.fl l ++ List.replicate n .any))) (hg : cD i l.length = true) (he : at_ l i = c) :
    OpR P ⟨d, .load T x, T2, pos, after, g⟩ e A (u8 c) A := by
  obtain ⟨h1, h2⟩ := nR hg;refine am hT hD hx hA ?_
  rw [row_at (by omega), ← he, Int.toNat_of_nonneg h1]
theorem pE {l r : List UInt8} {o n k : Nat} {i : Int} {c : UInt8} (hsz : bH P T = some 1) (hx : opv e x = .pt o i.toNat) (hy : opv e y = u8 c) (hA : A[k]? = some (.obj o (Enc.byte.fl l ++ List.replicate n .any))) (hg : cD i l.length = true) (he : l.set i.toNat c = r) :
    OpR P ⟨d, .store T x y, T2, pos, after, g⟩ e A .any (A.set k (.obj o (Enc.byte.fl r ++ List.replicate n .any))) := by
  obtain ⟨h1, h2⟩ := nR hg
  have := aw (P := P) (d := d) (pos := pos) (after := after) (g := g) (T2 := T2) (i := k) hsz hx hy rfl hA (by simp [eV]; omega)
  rwa [row_set (by omega), he] at this
theorem kP {l : List UInt8} {o len cap n k : Nat} {src dst El : TypeId} (hs : P.underlying src = some (.slice El)) (hE : P.underlying El = some (.int .u8)) (hd : P.underlying dst = some .string) (hx : opv e x = .vw o 0 len cap)
    (hl : decide (l.length = len) = true) (hA : A[k]? = some (.obj o (Enc.byte.fl l ++ List.replicate n .any))) : OpR P ⟨d, .convert src dst x, T2, pos, after, g⟩ e A (S l) A := fun F I w ρ hI hρ => by
  have hl := of_decide_eq_true hl
  subst hl
  have h := hx ▸ hρ x
  generalize e1 : ρ x = v at h
  cases h with
  | vw o off len cap b ho =>
    obtain ⟨b', arr, ho', he, hca, hrl⟩ := hI.holds _ (gY hA F)
    rw [ho] at ho'; cases ho'
    have hc : (convert src dst (.slice (some ⟨b, 0, none⟩) l.length cap)).run P w = .ok (.string ⟨l.toArray⟩) w := by
      refine run_convert_bytes_back w src dst El _ cap l hs hE hd fun j hj => ?_
      have hj' : j < (Enc.byte.fl l ++ List.replicate n AV.any).length := by simp [eV]; omega
      have hr := hrl.2 j hj'
      have hrow := row_at (n := n) hj
      rw [(List.getElem?_eq_some_iff.1 hrow).2] at hr
      have hv := bO hr
      have hja : j < arr.length := by rw [hrl.1]; exact hj'
      rw [cu, hca.cell]
      simp only [Nat.zero_add, aK hja]
      simp only [List.getD, aK hja, Option.getD_some] at hv
      rw [hv]
      simp [at_, List.getD, hj]
    refine ⟨_, _, w, I, ?_, .inl rfl, bU _ _, hI, .v (.string ⟨l.toArray⟩)⟩
    simp only [execOp, e1, hc, Sem.run_bind, Result.andThen_ok, Sem.run_pure]
end
end Go.Av
namespace Go.Av
open Go.RowKit Go.Pv Go.MapKept
def mpI (k : IntKind) (es : List (List UInt8 × Int)) : AV := .mp (es.map fun p => (p.1, .int k p.2))
section
variable {P : Program} {ro : Option Nat} {N : Nat} {Q : eH} {ops : Array Oper} {i : Nat} {rest : List Nat} {e : Env} {ds : List ADef} {A : List Chunk}
  {T : TypeId} {pos : String} {after : Array Edge} {k : IntKind}
def AM (P : Program) (ro : Option Nat) (N : Nat) (ops : Array Oper) (Q : eH) (l : List Nat) (t : Nat) (k : IntKind) (es : List (List UInt8 × Int)) (s : St) : Prop :=
  ∀ F I w a r, Inv I (s.A ++ F) w → RelS N I w s a → a.tmps.getD t undef = .map (some r) → I.ext r = some 0 → (∀ c ∈ s.A ++ F, c.blk I ≠ some r) →
    (∃ ents c, w.heap[r]? = some (.map ents c) ∧ ents.toList.map (fun x => (x.key, x.val)) = es.map fun p => (.string ⟨p.1.toArray⟩, .int k p.2)) → wpOpsIn (dd ro) 0 P ops (CQ N F I w Q) l a w
theorem AM.make {d T2 : Nat} (ho : ops[i]? = some ⟨some d, .makeMap T none, T2, pos, after, none⟩) (hd : Nat.blt d N = true) (h : AM P ro N ops Q rest d k [] ⟨(d, .any) :: e, ds, A⟩) : AR P ro N ops Q (i :: rest) ⟨e, ds, A⟩ := by
  refine aq ho rfl fun F I w a hI hS => ?_
  have hdN : d < N := ai hd
  have X := hI.new_still (.map #[] 0)
  have X2 : Ext I w I (w.alloc (.map #[] 0)) := by
    refine ⟨rfl, rfl, rfl, by simp, fun b hb => ?_, fun b j hj => ?_, fun _ _ h => h, fun _ _ h => h, fun _ _ h => h, fun _ _ h => h.alloc _⟩
    · have hne : b ≠ w.heap.size := fun e => by rw [e, hI.fresh _ (Nat.le_refl _)] at hb; cases hb
      exact ⟨ca _ _ _ hne, hb⟩
    · refine ix _ _ _ _ fun e => ?_
      have := hj 0 (by rw [e]; exact hI.fresh _ (Nat.le_refl _))
      omega
  have hlt : ∀ c ∈ A ++ F, ∀ b, c.blk I = some b → b ≠ w.heap.size := fun c hc b hb e => by
    have := (hI.holds c hc).blk_lt hb; omega
  have hI2 : Inv I (A ++ F) (w.alloc (.map #[] 0)) := hI.keep X2 (fun c hc b hb => ⟨ca _ _ _ (hlt c hc b hb), rfl⟩) (fun b hb => hI.fresh b (by simp only [World.size_alloc] at hb; omega)) hI.ids
  refine ⟨fun _ _ => dc _, ?_⟩
  rw [Oper.semAt_eq _ _ _ (fun c h => by cases h)]
  have hrun : (execOp a.eval ⟨some d, .makeMap T none, T2, pos, after, none⟩).run P w = .ok (.value (.map (some w.heap.size))) (w.alloc (.map #[] 0)) := by
    simp only [execOp, Option.map_none, Sem.run_bind, Result.andThen_ok, Sem.run_pure]
    rfl
  rw [hrun]
  have hS2 := (hS.mono X2).put hdN (av := .any) (v := .map (some w.heap.size)) (.any _) A
  have hk := h F I (w.alloc (.map #[] 0)) (a.put (some d) (.map (some w.heap.size))) w.heap.size hI2 hS2 (by
      have hs := hS.size
      simp only [Act.put, Array.getD_eq_getD_getElem?, Array.getElem?_setIfInBounds_self_of_lt (show d < a.tmps.size by omega), Option.getD_some]) (hI.fresh _ (Nat.le_refl _)) (fun c hc hb => hlt c hc _ hb rfl)
    ⟨#[], 0, cc _ _, rfl⟩
  exact cG rest (fun _ _ _ => dK X2 fun _ _ h => h) _ _ hk
theorem AM.insert {t T2 : Nat} {es : List (List UInt8 × Int)} {key : ByteArray} {s : List UInt8} {n : Int} {kt et : TypeId} (ho : ops[i]? = some ⟨none, .insert T (.tmp t) (.const (.string key)) (.const (.int k n)), T2, pos, after, none⟩)
    (hm : P.underlying T = some (.map kt et)) (hd : P.underlying kt = some .string) (hs : key.data.toList = s) (hn : (es.all fun p => !(p.1 == s)) = true)
    (h : AM P ro N ops Q rest t k (es ++ [(s, n)]) ⟨e, ds, A⟩) : AM P ro N ops Q (i :: rest) t k es ⟨e, ds, A⟩ := by
  intro F I w a r hI hS ht hr0 hrb hh;obtain ⟨ents, c, hb, hes⟩ := hh
  have hkey : key = ⟨s.toArray⟩ := by cases key; simp at hs; subst hs; rfl
  have hks : ∀ x ∈ ents.toList, IsKey .string x.key := fun x hx => by
    have : (x.key, x.val) ∈ es.map fun p => (Value.string ⟨p.1.toArray⟩, Value.int k p.2) := by rw [← hes]; exact List.mem_map_of_mem hx
    obtain ⟨p, _, hp⟩ := List.mem_map.1 this
    simp only [Prod.mk.injEq] at hp
    rw [← hp.1]; trivial
  have hne : ∀ x ∈ ents.toList, x.key ≠ .string key := fun x hx e2 => by
    have : (x.key, x.val) ∈ es.map fun p => (Value.string ⟨p.1.toArray⟩, Value.int k p.2) := by rw [← hes]; exact List.mem_map_of_mem hx
    obtain ⟨p, hp, hpe⟩ := List.mem_map.1 this
    simp only [Prod.mk.injEq] at hpe
    have h2 := List.all_eq_true.1 hn p hp
    rw [e2, hkey] at hpe
    have h3 := hpe.1
    simp only [Value.string.injEq, ByteArray.mk.injEq] at h3
    have h4 : p.1 = s := by have := congrArg Array.toList h3; simpa using this
    simp [h4] at h2
  rcases findNow_spec (d := .string) (k := .string key) trivial ents.toList 0 hks with ⟨h1, _⟩ | ⟨j, x, _, h2, h3⟩
  · have hlt := (Array.getElem?_eq_some_iff.1 hb).1
    have hrun : (Oper.semAt (dd ro).round a.eval ⟨none, .insert T (.tmp t) (.const (.string key)) (.const (.int k n)), T2, pos, after, none⟩).run P w =
        .ok .skip { w with heap := w.heap.setIfInBounds r (.map (ents.push { key := .string key, val := .int k n, born := c }) (c + 1)) } := by
      rw [Oper.semAt_eq _ _ _ (fun c h => by cases h)]
      simp [execOp, Act.eval, ht, Instr.mapUpdate, run_underlying hm, MapKept.run_getObj_map hb, MapKept.run_checkKey (d := .string) (k := .string key) hd trivial, MapKept.run_findKey hd h1, MapKept.run_setObj_map _ hb, Result.andThen]
    have hset := heap_set (o' := .map (ents.push { key := .string key, val := .int k n, born := c }) (c + 1)) hb
    have X : Ext I w I { w with heap := w.heap.setIfInBounds r (.map (ents.push { key := .string key, val := .int k n, born := c }) (c + 1)) } := by
      refine ⟨rfl, rfl, rfl, by simp, fun b hb' => ?_, fun b j hj => ?_, fun _ _ h => h, fun _ _ h => h, fun _ _ h => h, fun b E hE => ?_⟩
      · have : b ≠ r := fun e => by rw [e, hr0] at hb'; cases hb'
        exact ⟨hset.2 b this, hb'⟩
      · have : b ≠ r := fun e => by have := hj 0 (by rw [e]; exact hr0); omega
        simp only [World.cell?, hset.2 b this]
      · by_cases e : b = r
        · subst e; obtain ⟨d, fz, hd⟩ := hE; rw [hb] at hd; cases hd
        · obtain ⟨d, fz, hd⟩ := hE; exact ⟨d, fz, (hset.2 b e).trans hd⟩
    have hI2 := hI.keep X (fun c hc b hb' => ⟨hset.2 b (fun e => hrb c hc (by rw [← e]; exact hb')), rfl⟩) (fun b hb' => hI.fresh b (by simpa using hb')) hI.ids
    have hk := h F I _ a r hI2 (hS.mono X) ht hr0 hrb ⟨_, _, hset.1, by simp [hes, hkey]⟩
    simp only [wpOpsIn, ho, Region.wanted, if_true]
    refine ⟨fun _ _ => dc _, ?_⟩
    rw [hrun]
    exact cG rest (fun _ _ _ => dK X fun _ _ h => h) _ _ hk
  · exact (hne x (by have := List.mem_of_getElem? h2; exact this) h3).elim
abbrev _root_.Go.Av.cQ := @AM.insert
theorem AM.done {l : List Nat} {t : Nat} {es : List (List UInt8 × Int)} (h : AR P ro N ops Q l ⟨(t, mpI k es) :: e, ds, A⟩) : AM P ro N ops Q l t k es ⟨e, ds, A⟩ := by
  intro F I w a r hI hS ht hr0 hrb hh;obtain ⟨ents, c, hb, hes⟩ := hh
  have X : Ext I w (I.still r) w := by
    refine ⟨rfl, rfl, rfl, Nat.le_refl _, fun b hb' => ⟨rfl, ?_⟩, fun _ _ _ => rfl, fun b n hn => ?_, fun _ _ h => h, fun _ _ h => h, fun _ _ h => h⟩
    · simp only [Info.still]; split
      · rfl
      · exact hb'
    · intro m hm
      simp only [Info.still] at hm
      split at hm
      · cases hm
      · exact hn m hm
  have hlt := (Array.getElem?_eq_some_iff.1 hb).1
  have hI2 : Inv (I.still r) (A ++ F) w := hI.keep X (fun c hc b hb' => ⟨rfl, by simp only [Info.still]; rw [if_neg (fun e => hrb c hc (by rw [← e]; exact hb'))]⟩) (fun b hb' => by simp only [Info.still]; rw [if_neg (by omega)]; exact hI.fresh b hb') hI.ids
  have hv : Rel (I.still r) w (mpI k es) (.map (some r)) := .mp _ r ents c hb (by simp [Info.still]) (by rw [hes]; simp)
  have hS2 := hS.mono X
  have hk := h F (I.still r) w a hI2 ⟨hS.size, fun j => by
    simp only [ev]
    cases hbq : Nat.beq t j with
    | false => exact hS2.env j
    | true => have := Nat.eq_of_beq_eq_true hbq; subst this; rw [ht]; exact hv, hS2.ds⟩
  exact cG l (fun _ _ _ => dK X fun _ _ h => h) _ _ hk
end
def mget (es : List (List UInt8 × Int)) (s : List UInt8) : Int := (es.lookup s).getD 0
def mhas (es : List (List UInt8 × Int)) (s : List UInt8) : Bool := (es.lookup s).isSome
section
variable {P : Program} {e : Env} {d : Option Nat} {T : TypeId} {pos : String} {after : Array Edge} {g : Option (Nat × Bool)} {x y : Operand} {T2 : TypeId} {k : IntKind}
theorem pA {es : List (List UInt8 × Int)} {s : List UInt8} {I : Info} {w : World} {v : Value} (h : Rel I w (mpI k es) v) {kt et : TypeId} (hm : P.underlying T = some (.map kt et)) (hd : P.underlying kt = some .string) (hz : ∀ w, (zeroValue et).run P w = .ok (.int k 0) w) :
    ∀ w', (∀ b, I.ext b = none → w'.heap[b]? = w.heap[b]?) → ∀ ok, (Instr.lookup T v (.string ⟨s.toArray⟩) ok).run P w' = .ok (if ok then .tuple #[.int k (mget es s), .bool (mhas es s)] else .int k (mget es s)) w' := by
  cases h with
  | mp _ r ents c hb hst he =>
    intro w' hw' ok
    have hb' : w'.heap[r]? = some (.map ents c) := (hw' r hst).trans hb
    have key : ∀ (es : List (List UInt8 × Int)) (l : List MapEntry) (i : Nat), l.map (fun x => (x.key, x.val)) = (es.map fun p => (p.1, Value.int k p.2)).map (fun p => (.string ⟨p.1.toArray⟩, p.2)) →
        ∃ j, Instr.findNow .string (.string ⟨s.toArray⟩) l i = some (match es.lookup s with | some n => some (j, .int k n) | none => none) := by
      intro es
      induction es with
      | nil => intro l i hl; simp at hl; subst hl; exact ⟨0, rfl⟩
      | cons p es ih =>
        intro l i hl
        cases l with
        | nil => simp at hl
        | cons x l =>
          simp only [List.map_cons, List.cons.injEq, Prod.mk.injEq] at hl
          obtain ⟨⟨hk1, hv1⟩, hl⟩ := hl
          have hsn : Instr.sameNow .string (.string ⟨s.toArray⟩) x.key = some (s == p.1) := by
            rw [hk1]
            show some ((⟨s.toArray⟩ : ByteArray) == ⟨p.1.toArray⟩) = _
            congr 1
            rw [Bool.eq_iff_iff, bytes_beq]
            simp
          cases hsp : (s == p.1) with
          | true =>
            refine ⟨i, ?_⟩
            simp only [Instr.findNow, hsn, hsp, List.lookup, hv1]
          | false =>
            obtain ⟨j, hj⟩ := ih l (i + 1) hl;refine ⟨j, ?_⟩
            simp only [Instr.findNow, hsn, hsp, List.lookup, hj]
    obtain ⟨j, hj⟩ := key es ents.toList 0 he
    have hfk : (Instr.findKey kt (.string ⟨s.toArray⟩) ents.toList).run P w' = .ok _ w' := MapKept.run_findKey (d := .string) hd hj
    have hck : ∀ b, (Instr.checkKey b 10000 kt (.string ⟨s.toArray⟩)).run P w' = .ok () w' := fun b => MapKept.run_checkKey (d := .string) (k := .string ⟨s.toArray⟩) hd trivial b 9999
    simp only [Instr.lookup, Sem.run_bind, run_underlying hm, Result.andThen_ok, MapKept.run_getObj_map hb', Sem.run_pure, hck, hfk]
    unfold mget mhas
    cases es.lookup s with
    | none => simp [hz, Result.andThen]
    | some n => simp [Result.andThen]
theorem ve {es : List (List UInt8 × Int)} {s : List UInt8} {kt et : TypeId} (hm : P.underlying T = some (.map kt et)) (hd : P.underlying kt = some .string) (hz : ∀ w, (zeroValue et).run P w = .ok (.int k 0) w) (hx : opv e x = mpI k es) (hy : opv e y = S s) :
    OpS P ⟨d, .lookup T x y false, T2, pos, after, g⟩ e (.v (.int k (mget es s))) := fun I w ρ hρ => by
  have h := hx ▸ hρ x
  have e2 := bO (hy ▸ hρ y)
  refine ⟨_, .v _, fun w' _ hw => ?_⟩
  simp only [execOp, e2, pA h hm hd hz w' hw false, Sem.run_bind, Result.andThen_ok, Sem.run_pure]
  rfl
theorem xo {es : List (List UInt8 × Int)} {s : List UInt8} {kt et : TypeId} (hm : P.underlying T = some (.map kt et)) (hd : P.underlying kt = some .string) (hz : ∀ w, (zeroValue et).run P w = .ok (.int k 0) w) (hx : opv e x = mpI k es) (hy : opv e y = S s) :
    OpS P ⟨d, .lookup T x y true, T2, pos, after, g⟩ e (.tup [.v (.int k (mget es s)), B (mhas es s)]) := fun I w ρ hρ => by
  have h := hx ▸ hρ x
  have e2 := bO (hy ▸ hρ y)
  refine ⟨.tuple #[.int k (mget es s), .bool (mhas es s)], .tup _ [_, _] rfl (cX (.v _) (cX (.v _) eJ)).2, fun w' _ hw => ?_⟩
  simp only [execOp, e2, pA h hm hd hz w' hw true, Sem.run_bind, Result.andThen_ok, Sem.run_pure]
  rfl
end
end Go.Av
namespace Go.Pv
open Go
def eI (n : Int) : List UInt8 := (Utf8.encode n).data.toList
def pR (s : List UInt8) (p : Nat) : Nat × Nat := Utf8.decode ⟨s.toArray⟩ p
end Go.Pv
namespace Go.Av
open Go.RowKit Go.Pv
def eg (T : TypeId) (k : IntKind) (n : Int) : AV := if n = 0 then .v .nilIface else .ifc T (.v (.int k n))
def eAny (T : TypeId) (n : Int) : AV := if n = 0 then .v .nilIface else .ifc T .any
section
variable {P : Program} {e : Env} {d : Option Nat} {T : TypeId} {pos : String} {after : Array Edge} {g : Option (Nat × Bool)} {x y z : Operand} {av : AV} {T1 T2 T' : TypeId}
def dV : TypeDesc → Bool
  | .interface _ => true
  | _ => false
theorem uo {n : Nat} {t : TypeId} {v : Value} {w : World} {D : TypeDesc} (hT : P.underlying T = some D) (hD : dV D = true) : (Op.equalIn (n + 1) T (.iface t v) .nilIface).run P w = .ok false w := by
  cases D <;> first | (cases hD; done) | simp only [Op.equalIn, Sem.run_bind, run_underlying hT, Result.andThen_ok, Sem.run_pure]
theorem un {n : Nat} {t : TypeId} {v : Value} {w : World} {D : TypeDesc} (hT : P.underlying T = some D) (hD : dV D = true) : (Op.equalIn (n + 1) T .nilIface (.iface t v)).run P w = .ok false w := by
  cases D <;> first | (cases hD; done) | simp only [Op.equalIn, Sem.run_bind, run_underlying hT, Result.andThen_ok, Sem.run_pure]
theorem um {n : Nat} {w : World} {D : TypeDesc} (hT : P.underlying T = some D) (hD : dV D = true) : (Op.equalIn (n + 1) T .nilIface .nilIface).run P w = .ok true w := by
  cases D <;> first | (cases hD; done) | simp only [Op.equalIn, Sem.run_bind, run_underlying hT, Result.andThen_ok, Sem.run_pure]
theorem eqn_int {n : Nat} {t : TypeId} {k k' : IntKind} {a b : Int} {w : World} (ht : P.underlying t = some (.int k)) : (Op.equalIn (n + 1) t (.int k' a) (.int k' b)).run P w = .ok (a == b) w := by
  simp [Op.equalIn, run_underlying ht, Result.andThen]
theorem up {n : Nat} {t : TypeId} {k k' : IntKind} {a b : Int} {w : World} {D : TypeDesc} (hT : P.underlying T = some D) (hD : dV D = true) (ht : P.underlying t = some (.int k)) (hc : (P.info? t).any (·.comparable) = true) :
    (Op.equalIn (n + 1 + 1) T (.iface t (.int k' a)) (.iface t (.int k' b))).run P w = .ok (a == b) w := by
  have h := eqn_int (n := n) (k' := k') (a := a) (b := b) (w := w) ht
  obtain ⟨i, hi, hi2⟩ := (Option.any_eq_true _ _).1 hc
  have hti : (typeInfo t).run P w = .ok i w := by simp [typeInfo, program, hi, Sem.run]
  cases D <;> first | (cases hD; done) | (rw [Op.equalIn]; simp only [Sem.run_bind, run_underlying hT, Result.andThen_ok, Sem.run_pure, ne_eq, not_true_eq_false, if_false, hti, hi2, Bool.not_true, Bool.false_eq_true]; exact h)
theorem vQ {t : TypeId} {v : Value} {w : World} {D : TypeDesc} (hT : P.underlying T = some D) (hD : dV D = true) : (Op.equal T (.iface t v) .nilIface).run P w = .ok false w := uo (n := 9999) hT hD
theorem vP {t : TypeId} {v : Value} {w : World} {D : TypeDesc} (hT : P.underlying T = some D) (hD : dV D = true) : (Op.equal T .nilIface (.iface t v)).run P w = .ok false w := un (n := 9999) hT hD
theorem vO {w : World} {D : TypeDesc} (hT : P.underlying T = some D) (hD : dV D = true) : (Op.equal T .nilIface .nilIface).run P w = .ok true w := um (n := 9999) hT hD
theorem vR {t : TypeId} {k k' : IntKind} {a b : Int} {w : World} {D : TypeDesc} (hT : P.underlying T = some D) (hD : dV D = true) (ht : P.underlying t = some (.int k)) (hc : (P.info? t).any (·.comparable) = true) :
    (Op.equal T (.iface t (.int k' a)) (.iface t (.int k' b))).run P w = .ok (a == b) w := up (n := 9998) hT hD ht hc
theorem xv {op : BinOp} {v a b : Value} (h : a = .nilIface ∨ ∃ t y, a = .iface t y) (w : World) : (eqGuard op T x (.const v) a b).run P w = .ok () w := by
  rcases h with rfl | ⟨t, y, rfl⟩
  · cases b <;> cases op <;> simp [eqGuard]
  · cases op <;> simp [eqGuard]
theorem xu {op : BinOp} {a b : Value} {t : TypeId} {v : Value} (hb : b = .iface t v) (h : a = .nilIface ∨ ∃ t y, a = .iface t y) (w : World) : (eqGuard op T x y a b).run P w = .ok () w := by
  subst hb
  rcases h with rfl | ⟨t, y, rfl⟩ <;> cases op <;> simp [eqGuard]
theorem rX {I : Info} {w : World} {t : TypeId} {k : IntKind} {n : Int} {v : Value} (h : Rel I w (eg t k n) v) : (n = 0 ∧ v = .nilIface) ∨ (n ≠ 0 ∧ v = .iface t (.int k n)) := by
  unfold eg at h
  by_cases h0 : n = 0
  · rw [if_pos h0] at h; exact .inl ⟨h0, bO h⟩
  · rw [if_neg h0] at h
    cases h with
    | ifc _ _ y hy => exact .inr ⟨h0, by rw [bO hy]⟩
theorem rel_eAny {I : Info} {w : World} {t : TypeId} {n : Int} {v : Value} (h : Rel I w (eAny t n) v) : (n = 0 ∧ v = .nilIface) ∨ (n ≠ 0 ∧ ∃ y, v = .iface t y) := by
  unfold eAny at h
  by_cases h0 : n = 0
  · rw [if_pos h0] at h; exact .inl ⟨h0, bO h⟩
  · rw [if_neg h0] at h
    cases h with
    | ifc _ _ y hy => exact .inr ⟨h0, y, rfl⟩
theorem va {op : BinOp} {n : Int} {v : Value} {D : TypeDesc} (hop : op = .eql ∨ op = .neq) (hT : P.underlying T = some D) (hD : dV D = true) (h : (n = 0 ∧ v = .nilIface) ∨ (n ≠ 0 ∧ ∃ t y, v = .iface t y)) (ρ : Operand → Value) (e1 : ρ x = v) (h2 : ρ (.const .nilIface) = .nilIface) (w : World) :
    (execOp ρ ⟨d, .binOp op T x (.const .nilIface) T', T2, pos, after, g⟩).run P w = .ok (.value (.bool (if op = .eql then decide (n = 0) else !decide (n = 0)))) w := by
  have hg : (eqGuard op T x (.const .nilIface) v .nilIface).run P w = .ok () w := xv (by rcases h with ⟨_, h⟩ | ⟨_, t, y, h⟩; exact .inl h; exact .inr ⟨t, y, h⟩) w
  have hb : (binOp op T v .nilIface).run P w = .ok (.bool (if op = .eql then decide (n = 0) else !decide (n = 0))) w := by
    rcases h with ⟨h0, rfl⟩ | ⟨h0, t, y, rfl⟩ <;> rcases hop with rfl | rfl <;> simp [binOp, vO hT hD, vQ hT hD, h0, Result.andThen]
  simp only [execOp, e1, h2, hg, hb, Sem.run_bind, Sem.run_pure, Result.andThen_ok]
theorem lE {n : Int} {t : TypeId} {k : IntKind} {D : TypeDesc} (hT : P.underlying T = some D) (hD : dV D = true) (hx : opv e x = eg t k n) : OpS P ⟨d, .binOp .neq T x (.const .nilIface) T', T2, pos, after, g⟩ e (B (!decide (n = 0))) := fun I w ρ hρ =>
  ⟨_, .v _, fun w' _ _ => va (.inr rfl) hT hD (by rcases rX (hx ▸ hρ x) with h | ⟨h, h2⟩; exact .inl h; exact .inr ⟨h, _, _, h2⟩) ρ rfl (bO (hρ (.const .nilIface))) w'⟩
theorem vJ {n : Int} {t : TypeId} {D : TypeDesc} (hT : P.underlying T = some D) (hD : dV D = true) (hx : opv e x = eAny t n) : OpS P ⟨d, .binOp .neq T x (.const .nilIface) T', T2, pos, after, g⟩ e (B (!decide (n = 0))) := fun I w ρ hρ =>
  ⟨_, .v _, fun w' _ _ => va (.inr rfl) hT hD (by rcases rel_eAny (hx ▸ hρ x) with h | ⟨h, y, h2⟩; exact .inl h; exact .inr ⟨h, _, _, h2⟩) ρ rfl (bO (hρ (.const .nilIface))) w'⟩
theorem yg {op : BinOp} {n m : Int} {v : Value} {t : TypeId} {k k' : IntKind} {D : TypeDesc} (hop : op = .eql ∨ op = .neq) (hT : P.underlying T = some D) (hD : dV D = true) (ht : P.underlying t = some (.int k')) (hc : (P.info? t).any (·.comparable) = true) (hm : decide (m = 0) = false)
    (h : (n = 0 ∧ v = .nilIface) ∨ (n ≠ 0 ∧ v = .iface t (.int k n))) (ρ : Operand → Value) (e1 : ρ x = v) (h2 : ρ y = .iface t (.int k m)) (w : World) :
    (execOp ρ ⟨d, .binOp op T x y T', T2, pos, after, g⟩).run P w = .ok (.value (.bool (if op = .eql then decide (n = m) else !decide (n = m)))) w := by
  have hm' : m ≠ 0 := of_decide_eq_false hm
  have hg : (eqGuard op T x y v (.iface t (.int k m))).run P w = .ok () w := xu rfl (by rcases h with ⟨_, h⟩ | ⟨_, h⟩; exact .inl h; exact .inr ⟨_, _, h⟩) w
  have hb : (binOp op T v (.iface t (.int k m))).run P w = .ok (.bool (if op = .eql then decide (n = m) else !decide (n = m))) w := by
    rcases h with ⟨h0, rfl⟩ | ⟨h0, rfl⟩
    · have hnm : ¬ n = m := by omega
      rcases hop with rfl | rfl <;> simp [binOp, vP hT hD, hnm, Result.andThen]
    · rcases hop with rfl | rfl <;> simp [binOp, vR hT hD ht hc, Result.andThen] <;> rfl
  simp only [execOp, e1, h2, hg, hb, Sem.run_bind, Sem.run_pure, Result.andThen_ok]
theorem me {I : Info} {w : World} {t : TypeId} {k : IntKind} {n : Int} {v : Value} (h : Rel I w (.ifc t (.v (.int k n))) v) : v = .iface t (.int k n) := by
  cases h with
  | ifc _ _ y hy => rw [bO hy]
theorem se {n m : Int} {t : TypeId} {k k' : IntKind} {D : TypeDesc} (hT : P.underlying T = some D) (hD : dV D = true) (ht : P.underlying t = some (.int k')) (hc : (P.info? t).any (·.comparable) = true) (hm : decide (m = 0) = false) (hx : opv e x = eg t k n) (hy : opv e y = .ifc t (.v (.int k m))) :
    OpS P ⟨d, .binOp .neq T x y T', T2, pos, after, g⟩ e (B (!decide (n = m))) := fun I w ρ hρ =>
  ⟨_, .v _, fun w' _ _ => yg (.inr rfl) hT hD ht hc hm (rX (hx ▸ hρ x)) ρ rfl (me (hy ▸ hρ y)) w'⟩
theorem nI {k : IntKind} {n : Int} {r : List UInt8} {src dst : TypeId} {ks : IntKind} (hs : P.underlying src = some (.int ks)) (hd : P.underlying dst = some .string) (hx : opv e x = .v (.int k n)) (he : eI n = r) :
    OpS P ⟨d, .convert src dst x, T, pos, after, g⟩ e (S r) := fun I w ρ hρ => by
  have h1 := bO (hx ▸ hρ x)
  subst he;refine ⟨_, .v _, fun w' _ _ => ?_⟩
  simp [execOp, h1, convert, run_underlying hs, run_underlying hd, Conv.intToString, eI, Result.andThen]
theorem vc {A : List Chunk} {s : List UInt8} {o i p : Nat} (hx : opv e x = .pt o 0) (hA : A[i]? = some (.iter o s p)) (hp : decide (p < s.length) = true) :
    OpR P ⟨d, .next x true, T, pos, after, g⟩ e A (.tup [B true, i64 p, .v (.int .i32 (pR s p).1)]) (A.set i (.iter o s (p + (pR s p).2))) := rH hx hA (of_decide_eq_true hp)
theorem vd {A : List Chunk} {s : List UInt8} {o i p : Nat} (hx : opv e x = .pt o 0) (hA : A[i]? = some (.iter o s p)) (hp : decide (p < s.length) = false) :
    OpR P ⟨d, .next x true, T, pos, after, g⟩ e A (.tup [B false]) A := rI hx hA (of_decide_eq_false hp)
theorem oy (a : UInt8) : BitVec.ofInt 8 (a.toNat : Int) = a.toBitVec := by
  rw [BitVec.ofInt_natCast]
  apply BitVec.eq_of_toNat_eq
  rw [BitVec.toNat_ofNat]
  have := a.toNat_lt
  show a.toNat % 2 ^ 8 = a.toNat
  omega
theorem qt (a : UInt8) : IntKind.u8.wrap (a.toNat : Int) = a.toNat := by rw [wrap_u8]; have := a.toNat_lt; omega
theorem or8_eq (a b : UInt8) : IntKind.u8.wrap ((BitVec.ofInt IntKind.u8.bits (a.toNat : Int) ||| BitVec.ofInt IntKind.u8.bits (b.toNat : Int)).toNat : Int) = ((a ||| b).toNat : Int) := by
  show IntKind.u8.wrap ((BitVec.ofInt 8 (a.toNat : Int) ||| BitVec.ofInt 8 (b.toNat : Int)).toNat : Int) = _
  rw [oy, oy, ← UInt8.toBitVec_or]
  exact qt _
theorem and8_eq (a b : UInt8) : IntKind.u8.wrap ((BitVec.ofInt IntKind.u8.bits (a.toNat : Int) &&& BitVec.ofInt IntKind.u8.bits (b.toNat : Int)).toNat : Int) = ((a &&& b).toNat : Int) := by
  show IntKind.u8.wrap ((BitVec.ofInt 8 (a.toNat : Int) &&& BitVec.ofInt 8 (b.toNat : Int)).toNat : Int) = _
  rw [oy, oy, ← UInt8.toBitVec_and]
  exact qt _
theorem g_or8 {a b : UInt8} (hx : opv e x = u8 a) (hy : opv e y = u8 b) : OpS P ⟨d, .binOp .or T x y T', T2, pos, after, g⟩ e (u8 (a ||| b)) :=
  bo (wD hx hy) (by rw [or8_eq])
theorem g_and8 {a b : UInt8} (hx : opv e x = u8 a) (hy : opv e y = u8 b) : OpS P ⟨d, .binOp .and T x y T', T2, pos, after, g⟩ e (u8 (a &&& b)) :=
  bo (oG hx hy) (by rw [and8_eq])
def shr8 (a : UInt8) (k : Nat) : UInt8 := UInt8.ofNat (a.toNat / 2 ^ k)
theorem g_shr8 {a : UInt8} {k : IntKind} {n : Nat} (hx : opv e x = u8 a) (hy : opv e y = .v (.int k (n : Int))) (hn : Nat.ble n 8 = true) : OpS P ⟨d, .binOp .shr T x y T', T2, pos, after, g⟩ e (u8 (shr8 a n)) := by
  have := oD (P := P) (d := d) (T := T) (pos := pos) (after := after) (g := g) (T2 := T2) (T' := T') hx hy (Int.natCast_nonneg n)
  have hn8 : n ≤ 8 := ai hn
  have hm : min (n : Int).toNat IntKind.u8.bits = n := by show min n 8 = n; omega
  rw [hm] at this
  have h2 : (a.toNat : Int).fdiv (2 ^ n) = ((shr8 a n).toNat : Int) := by
    unfold shr8
    have h3 : a.toNat / 2 ^ n < 256 := Nat.lt_of_le_of_lt (Nat.div_le_self _ _) a.toNat_lt
    rw [UInt8.toNat_ofNat_of_lt' h3, Int.fdiv_eq_ediv_of_nonneg _ (by exact_mod_cast Nat.zero_le (2 ^ n))]
    push_cast; rfl
  rwa [h2] at this
end
end Go.Av
namespace Go.Av
open Go.RowKit Go.Pv
section
variable {P : Program} {ro : Option Nat} {N : Nat} {Q : eH} {ops : Array Oper} {l : List Nat} {e : Env} {ds : List ADef} {A : List Chunk}
theorem Inv.nil_objAt {I : Info} {w : World} {F : List Chunk} {o : Nat} {cs : List AV} (hI : Inv I (A ++ F) w) (i j k : Nat) (Ty : TypeId) (hA : A[i]? = some (.obj o cs)) (hj : cs[j]? = some (.v (.slice none 0 0))) :
    ∃ t I', Ext I w I' w ∧ Inv I' ((.tok t Ty :: A.set i (.obj o (cs.set j (.sl k [] (some t))))) ++ F) w := by
  obtain ⟨I', t, E, hI'⟩ := pM (hI.take_at hA) j k Ty hj;refine ⟨t, I', E, hI'.perm ?_⟩;exact (((ov A i _ (.obj o (cs.set j (.sl k [] (some t)))) hA)).append_right F).cons _
theorem AR.nil_objAt {o : Nat} {cs : List AV} (i j k : Nat) (Ty : TypeId) (hA : A[i]? = some (.obj o cs)) (hj : cs[j]? = some (.v (.slice none 0 0)))
    (h : ∀ t, AR P ro N ops Q l ⟨e, ds, .tok t Ty :: A.set i (.obj o (cs.set j (.sl k [] (some t))))⟩) : AR P ro N ops Q l ⟨e, ds, A⟩ := fun F I w a hI hS => by
  obtain ⟨t, I', E, hI'⟩ := Inv.nil_objAt hI i j k Ty hA hj;exact cG l (fun _ _ _ => dK E fun _ _ h => h) _ _ (h t F I' w a hI' ⟨hS.size, (hS.mono E).env, (hS.mono E).ds⟩)
end
section
variable {P : Program} {e : Env} {d : Option Nat} {T : TypeId} {pos : String} {after : Array Edge} {g : Option (Nat × Bool)} {x : Operand} {A : List Chunk}
theorem opX_boxT {a : AV} {T2 : TypeId} (hx : opv e x = a) (hc : cP a = true ∨ ∃ cs, a = .agg cs) : OpX P ⟨d, .box T x, T2, pos, after, g⟩ e A (fun av A' => ∃ o, av = .pt o 0 ∧ A' = .obj o (cellsOf a) :: .ty o T :: A) := fun F I w ρ hI hρ => by
  have hv := hx ▸ hρ x
  obtain ⟨o, ho⟩ := hI.fresh_obj
  have hrl := kU hv hc
  have hI' := hI.alloc_obj ho T hrl
  have hty : (Chunk.ty o T).Holds (I.putObj o w.heap.size) (w.alloc (.cells (ρ x).cells.toList.toArray T)) := ⟨w.heap.size, by simp [Info.putObj], _, _, cc _ _⟩
  have hI2 : Inv (I.putObj o w.heap.size) (.ty o T :: .obj o (cellsOf a) :: (A ++ F)) (w.alloc (.cells (ρ x).cells.toList.toArray T)) := Inv.cons hI' hty (fun b hb => by cases hb)
  refine ⟨_, .pointer (some ⟨w.heap.size, 0, none⟩), _, _, _, _, ?_, .inl rfl, hI.new_obj ho _, hI2.perm (List.Perm.swap _ _ _), .pt o 0 _ (by simp [Info.putObj]), o, rfl, rfl⟩
  simp only [execOp, Instr.box, newVar, newRow, Sem.run_bind, Sem.run_pure, run_newObj_alloc, Result.andThen_ok]
def isAgg : AV → Bool
  | .agg _ => true
  | _ => false
theorem wJ {a : AV} (h : isAgg a = true) : ∃ cs, a = .agg cs := by
  cases a <;> first | exact ⟨_, rfl⟩ | cases h
def th (e : Env) (parts : List (Nat × Operand)) : Bool := parts.all fun p => cP (opv e p.2) || isAgg (opv e p.2)
theorem du {parts : Array (Nat × Operand)} {zs : List Value} {ps : List (Nat × Nat)} {cs : List AV} {T2 : TypeId} (hi : ns P T = some (zs, ps))
    (hok : th e parts.toList = true) (hf : rh ps (zs.map .v) (parts.toList.map fun p => (p.1, opv e p.2)) = some cs) : OpS P ⟨d, .build T parts, T2, pos, after, g⟩ e (.agg cs) :=
  xh hi (fun p hp => by
    have h := List.all_eq_true.1 hok p hp
    cases hc : cP (opv e p.2) with
    | true => exact .inl rfl
    | false => rw [hc, Bool.false_or] at h; exact .inr (wJ h)) hf
end
section
variable {P : Program} {ro : Option Nat} {N : Nat} {Q : eH} {ops : Array Oper}
theorem AI.meet {e : Env} {ds : List ADef} {A : List Chunk} {fuel0 : Nat} {listed0 : Array Bool} (fuel : Nat) (listed : Array Bool) (d : Nat) (av : AV)
    (k : (∀ (r : Env) (m : Nat), r.drop m = e → fresh ((r.take m).map Prod.fst) e = true → AI P ro N ops Q fuel listed ⟨(d, av) :: r, ds, A⟩) → AI P ro N ops Q fuel0 listed0 ⟨e, ds, A⟩)
    (h : AI P ro N ops Q fuel listed ⟨(d, av) :: e, ds, A⟩) : AI P ro N ops Q fuel0 listed0 ⟨e, ds, A⟩ :=
  k fun r m hr hf => fun hp F I0 w0 I w a E hI hS => h hp F I0 w0 I w a E hI ⟨hS.size, fun t => by
    have ht := hS.env t
    have hre : r = r.take m ++ e := by rw [← hr, List.take_append_drop]
    generalize r.take m = pre at hf hre
    subst hre
    simp only [ev] at ht ⊢
    cases hb : Nat.beq d t with
    | true => rw [hb] at ht; exact ht
    | false =>
      rw [hb] at ht
      simp only at ht ⊢
      by_cases hm : ∃ p ∈ pre, p.1 = t
      · obtain ⟨p, hp, rfl⟩ := hm
        have : ev e p.1 = .any := by
          clear ht hS hI h k hr
          induction e with
          | nil => rfl
          | cons q e ih =>
            obtain ⟨j, b⟩ := q
            simp only [fresh, List.all_cons, Bool.and_eq_true, Bool.not_eq_true'] at hf
            have hj : j ≠ p.1 := fun e => by
              have := hf.1
              rw [e] at this
              have h2 : (pre.map Prod.fst).contains p.1 = true := by simpa using ⟨p.2, hp⟩
              rw [h2] at this; cases this
            simp only [ev]
            have hb : Nat.beq j p.1 = false := by
              cases hb : Nat.beq j p.1 with
              | false => rfl
              | true => exact absurd (Nat.eq_of_beq_eq_true hb) hj
            rw [hb]
            exact ih hf.2
        rw [this]; exact .any _
      · rw [← ja pre t (fun p hp e => hm ⟨p, hp, e⟩)]; exact ht, hS.ds⟩
end
end Go.Av
namespace Go.Av
open Go.RowKit Go.Pv
def Info.stillN (I : Info) (b n : Nat) : Info := { I with ext := fun x => if x = b then some n else I.ext x }
theorem Inv.other {I : Info} {A : List Chunk} {w : World} {c : Chunk} {b : Nat} (h : Inv I (c :: A) w) (hc : c.blk I = some b) : ∀ d ∈ A, ∀ b', d.blk I = some b' → b' ≠ b := by
  intro d hd b' hb' e;subst e
  have hn := h.nodup
  rw [List.filterMap_cons, hc] at hn
  exact (List.nodup_cons.1 hn).1 (List.mem_filterMap.2 ⟨d, hd, hb'⟩)
theorem Inv.freeze {I : Info} {A : List Chunk} {w : World} {o : Nat} {cs : List AV} (h : Inv I (.obj o cs :: A) w) (n : Nat) (hn : n ≤ cs.length) :
    ∃ I', Ext I w I' w ∧ Inv I' A w ∧ ∀ cap v, n ≤ cap → Rel I w (.vw o 0 n cap) v → Rel I' w (.sl 1 (cs.take n) none) v := by
  obtain ⟨b, arr, ho, he, hca, hrl⟩ := h.holds _ (List.mem_cons_self ..)
  have hbl : (Chunk.obj o cs).blk I = some b := ho
  have E : Ext I w (I.stillN b n) w := by
    refine ⟨rfl, rfl, rfl, Nat.le_refl _, fun b' hb' => ⟨rfl, ?_⟩, fun _ _ _ => rfl, fun b' m hs => ?_, fun _ _ x => x, fun _ _ x => x, fun _ _ x => x⟩
    · simp only [Info.stillN]
      rw [if_neg]
      · exact hb'
      · rintro rfl; rw [he] at hb'; cases hb'
    · intro q hq
      simp only [Info.stillN] at hq
      by_cases e : b' = b
      · subst e
        have := hs 0 he
        omega
      · rw [if_neg e] at hq; exact hs q hq
  refine ⟨I.stillN b n, E, ?_, ?_⟩
  · have hA : Inv I A w := h.sub (List.sublist_cons_self ..)
    refine hA.keep E (fun c hc b' hb' => ⟨rfl, ?_⟩) (fun b' hb' => ?_) h.ids
    · simp only [Info.stillN]; rw [if_neg (h.other hbl c hc b' hb')]
    · have hlt := hca.lt
      simp only [Info.stillN]; rw [if_neg (by omega)]; exact h.fresh b' hb'
  · intro cap v hcap hv
    cases hv with
    | vw o off len cap b' ho' =>
      rw [ho] at ho'; cases ho'
      have hlen : arr.length = cs.length := hrl.1
      have htk : (cs.take n).length = n := by simp; omega
      refine .sl 1 _ none b 0 n cap (fun j => arr.getD j undef) Nat.one_pos (by rw [htk, Nat.mul_one]) hcap ?_ ?_ ?_ (fun t' e => by cases e)
      · intro q hq
        simp only [Info.stillN, if_true, Option.some.injEq] at hq
        omega
      · intro j hj
        rw [Nat.zero_add, hca.cell, List.getD, aK (by omega)]; rfl
      · intro j hj
        have := (hrl.2 j (by omega)).mono E
        simpa using this
section
variable {P : Program} {ro : Option Nat} {N : Nat} {Q : eH}
end
section
variable {P : Program} {e : Env} {d : Option Nat} {T : TypeId} {pos : String} {after : Array Edge} {g : Option (Nat × Bool)} {x y z : Operand} {av : AV} {A : List Chunk}
end
section
variable {P : Program} {I : Info} {w : World}
end
section
variable {P : Program} {e : Env} {d : Option Nat} {T : TypeId} {pos : String} {after : Array Edge} {g : Option (Nat × Bool)} {x y z : Operand} {av : AV} {A : List Chunk}
end
section
variable {P : Program} {e : Env} {d : Option Nat} {T T2 : TypeId} {pos : String} {after : Array Edge} {g : Option (Nat × Bool)} {x y z : Operand} {av : AV} {A : List Chunk}
end
section
variable {P : Program} {e : Env} {d : Option Nat} {T : TypeId} {pos : String} {after : Array Edge} {g : Option (Nat × Bool)} {x y z : Operand} {av : AV} {A : List Chunk}
end
section
variable {P : Program} {ro : Option Nat} {N : Nat} {Q : eH}
end
end Go.Av
namespace Go.Av.Str
def rest (sep : List UInt8) : List (List UInt8) → List UInt8
  | [] => []
  | x :: r => sep ++ x ++ rest sep r
def join (sep : List UInt8) : List (List UInt8) → List UInt8
  | [] => []
  | x :: r => x ++ rest sep r
def total : List (List UInt8) → Nat
  | [] => 0
  | x :: r => x.length + total r
theorem total_drop (l : List (List UInt8)) (i : Nat) (h : i < l.length) : total (l.drop i) = l[i].length + total (l.drop (i + 1)) := by
  rw [bh h]; rfl
theorem rest_drop (sep : List UInt8) (l : List (List UInt8)) (i : Nat) (h : i < l.length) : rest sep (l.drop i) = sep ++ l[i] ++ rest sep (l.drop (i + 1)) := by
  rw [bh h]; rfl
theorem rest_end (sep : List UInt8) (l : List (List UInt8)) (i : Nat) (h : l.length ≤ i) : rest sep (l.drop i) = [] := by
  rw [bn h]; rfl
theorem pw (sep : List UInt8) : ∀ l, (rest sep l).length = sep.length * l.length + total l
  | [] => by simp [rest, total]
  | x :: r => by
    have := pw sep r
    simp only [rest, total, List.length_append, List.length_cons, Nat.mul_succ]; omega
theorem join_at (sep : List UInt8) (l : List (List UInt8)) (h : 0 < l.length) : join sep l = l[0] ++ rest sep (l.drop 1) := by
  cases l with
  | nil => simp at h
  | cons x r => rfl
theorem join_one (sep : List UInt8) (l : List (List UInt8)) (h : l.length = 1) (h0 : 0 < l.length) : join sep l = l[0] := by
  rw [join_at sep l h0, rest_end _ _ _ (by omega), List.append_nil]
theorem mul_bounds (a b N : Nat) (h : a * b ≤ N) (hb : 1 ≤ b) : 0 ≤ (a : Int) * ((b : Int) - 1) ∧ (a : Int) * ((b : Int) - 1) ≤ N := by
  have h1 : ((a * (b - 1) : Nat) : Int) = (a : Int) * ((b : Int) - 1) := by rw [Int.natCast_mul, Int.natCast_sub hb]; rfl
  rw [← h1]
  have h2 : a * (b - 1) ≤ a * b := Nat.mul_le_mul_left _ (by omega)
  omega
theorem quo_great (a b N : Nat) (h : a * b ≤ 1000000000) (hb : 2 ≤ b) (hb2 : b ≤ 1000000000) : ¬ (9223372036854775807 / ((b : Int) - 1) ≤ (a : Int)) := by
  intro h1
  have hp : (0 : Int) < (b : Int) - 1 := by omega
  have h2 : (9223372036854775807 : Int) < ((a : Int) + 1) * ((b : Int) - 1) := by
    have := Int.lt_ediv_add_one_mul_self 9223372036854775807 hp
    have h3 : ((9223372036854775807 / ((b : Int) - 1)) + 1) * ((b : Int) - 1) ≤ ((a : Int) + 1) * ((b : Int) - 1) := Int.mul_le_mul_of_nonneg_right (by omega) (by omega)
    omega
  have h4 := (mul_bounds a b 1000000000 h (by omega)).2
  rw [Int.add_mul, Int.one_mul] at h2
  omega
theorem pC (sep : List UInt8) (l : List (List UInt8)) : (join sep l).length ≤ sep.length * l.length + total l := by
  cases l with
  | nil => simp [join]
  | cons x r =>
    simp only [join, List.length_append, pw, List.length_cons, total]
    have : sep.length * r.length ≤ sep.length * (r.length + 1) := Nat.mul_le_mul_left _ (by omega)
    omega
theorem room (sep out : List UInt8) (l : List (List UInt8)) (i : Nat) (h : i < l.length) (h2 : out ++ rest sep (l.drop i) = join sep l) (hb : sep.length * l.length + total l ≤ 1000000000) : out.length + sep.length + l[i].length ≤ 1000000000 := by
  have h3 := congrArg List.length h2
  have h4 := pC sep l
  rw [rest_drop sep l i h] at h3
  simp only [List.length_append] at h3
  omega
theorem out_room (sep out r : List UInt8) (l : List (List UInt8)) (h2 : out ++ r = join sep l) (hb : sep.length * l.length + total l ≤ 1000000000) : out.length ≤ 1000000000 := by
  have h3 := congrArg List.length h2
  have h4 := pC sep l
  simp only [List.length_append] at h3
  omega
theorem mul_cast (a b : Nat) (hb : 1 ≤ b) : 0 + (a : Int) * ((b : Int) - 1) = ((a * (b - 1) : Nat) : Int) := by
  rw [Int.natCast_mul, Int.natCast_sub hb, Int.zero_add]; rfl
end Go.Av.Str
namespace Go.Pv
open Go.Av
def okS (n : Nat) : Bool := decide (n < 4294967281)
def pP (l : List (List UInt8)) (sep : List UInt8) : Bool := decide (sep.length * l.length + Str.total l ≤ 1000000000 ∧ l.length ≤ 1000000000)
def okW (l s : List UInt8) : Bool := decide (l.length + s.length ≤ 1000000000)
theorem gW {n : Nat} (h : okS n = true) : n < 4294967281 := of_decide_eq_true h
theorem lb {l : List (List UInt8)} {sep : List UInt8} (h : pP l sep = true) : sep.length * l.length + Str.total l ≤ 1000000000 ∧ l.length ≤ 1000000000 := of_decide_eq_true h
theorem jc {l s : List UInt8} (h : okW l s = true) : l.length + s.length ≤ 1000000000 := of_decide_eq_true h
theorem pO {l : List UInt8} (h : okW l [] = true) : l.length ≤ 1000000000 := by have := jc h; simpa using this
section
variable {ρ : Type} {k : Option ρ}
theorem qb {n : Nat} (h : n < 4294967281) : grd (okS n) k = k := by rw [okS, decide_eq_true h]; rfl
theorem qY {l : List (List UInt8)} {sep : List UInt8} (h : sep.length * l.length + Str.total l ≤ 1000000000 ∧ l.length ≤ 1000000000) : grd (pP l sep) k = k := by rw [pP, decide_eq_true h]; rfl
theorem ke {l s : List UInt8} (h : l.length + s.length ≤ 1000000000) : grd (okW l s) k = k := by rw [okW, decide_eq_true h]; rfl
end
def pQ (l : List UInt8) : Bool := l.all fun b => decide (b.toNat < 128)
theorem asciiB_s {l : List UInt8} (h : pQ l = true) : ∀ (j : Nat) b, l[j]? = some b → b.toNat < 128 := fun j b hj => of_decide_eq_true (List.all_eq_true.1 h b (List.mem_of_getElem? hj))
def trimPrefix (s p : List UInt8) : List UInt8 := if p.isPrefixOf s then s.drop p.length else s
end Go.Pv
namespace Go.Proofs.YtjegcifofddgbaaGreatDoor
open Go.RowKit Go.Av
theorem xm (s sub : List UInt8) (hs : s.length < 4294967281) : ACalls Tryz.prog 120 [S s, S sub] [] (Ret (i64 (Go.Lib.index s sub)) []) := by
  refine cL fun I A w vs hI hv => ?_
  obtain ⟨v1, r1, rfl, h1, hv⟩ := hv.out_cons;obtain ⟨v2, r2, rfl, h2, hv⟩ := hv.out_cons
  rw [hv.out_nil, fv h1, fv h2]
  obtain ⟨m, hm⟩ := kW hI (g := 0) (k := .i64) (r := []) rfl
  refine (Tryz.strings_Index ⟨s.toArray⟩ ⟨sub.toArray⟩ m w (by simpa [ByteArray.size] using hs) hm).mono fun e w' ⟨he, hw⟩ => ⟨by simpa using he, hw ▸ Below.refl _ _⟩
theorem tk (s sep : List UInt8) (hs : s.length < 4294967281) : ACalls Tryz.prog 36 [S s, S sep] [] (Ret (.tup [S (Go.Lib.cut s sep).1, S (Go.Lib.cut s sep).2.1, B (Go.Lib.cut s sep).2.2]) []) := by
  refine jb (rs := [.string ⟨(Go.Lib.cut s sep).1.toArray⟩, .string ⟨(Go.Lib.cut s sep).2.1.toArray⟩, .bool (Go.Lib.cut s sep).2.2]) rfl fun I A w vs hI hv => ?_
  obtain ⟨v1, r1, rfl, h1, hv⟩ := hv.out_cons;obtain ⟨v2, r2, rfl, h2, hv⟩ := hv.out_cons
  rw [hv.out_nil, fv h1, fv h2]
  obtain ⟨m, hm⟩ := kW hI (g := 0) (k := .i64) (r := []) rfl
  refine (Tryz.strings_Cut ⟨s.toArray⟩ ⟨sep.toArray⟩ m w (by simpa [ByteArray.size] using hs) hm).mono fun e w' ⟨he, n, hw⟩ => ⟨by simpa using he, hw ▸ Below.drewN _ _⟩
theorem dx (s : List UInt8) (c : UInt8) : ACalls Tryz.prog 64 [S s, u8 c] [] (Ret (i64 (Go.Lib.indexByte s c)) []) := by
  refine cL fun I A w vs hI hv => ?_
  obtain ⟨v1, r1, rfl, h1, hv⟩ := hv.out_cons;obtain ⟨v2, r2, rfl, h2, hv⟩ := hv.out_cons
  rw [hv.out_nil, fv h1, bO h2]
  refine (Tryz.strings_IndexByte ⟨s.toArray⟩ c.toNat w).mono fun e w' ⟨he, hw⟩ => ⟨by simpa using he, hw ▸ Below.refl _ _⟩
end Go.Proofs.YtjegcifofddgbaaGreatDoor
namespace Go.Proofs.YtjegcifofddgbaaGreatDoor
open Go.RowKit Go.Av
theorem vk : ∀ (args : Array Value) (w : World), (callFunc 118 args).run Tryz.prog w = .ok (.enter 118 args) w := fun _ _ => by kernel_rfl
theorem en62 : ∀ (args : Array Value) (w : World), (callFunc 62 args).run Tryz.prog w = .ok (.enter 62 args) w := fun _ _ => by kernel_rfl
theorem en63 : ∀ (args : Array Value) (w : World), (callFunc 63 args).run Tryz.prog w = .ok (.enter 63 args) w := fun _ _ => by kernel_rfl
theorem en144 : ∀ (args : Array Value) (w : World), (callFunc 144 args).run Tryz.prog w = .ok (.enter 144 args) w := fun _ _ => by kernel_rfl
theorem en193 : ∀ (args : Array Value) (w : World), (callFunc 193 args).run Tryz.prog w = .ok (.enter 193 args) w := fun _ _ => by kernel_rfl
abbrev _root_.Go.Av.cC := @Tryz.underlying191
abbrev _root_.Go.Av.aN := @Tryz.underlying89
set_option maxRecDepth 100000 in
set_option maxHeartbeats 1000000 in
theorem mO (o : Nat) (b : AV) :
    ACalls Tryz.prog 118 [.pt o 0] [.obj o [.v (.pointer none), b], .ty o 91] (Ret (.tup []) [.obj o [.pt o 0, b], .ty o 91]) := by
  refine ax Tryz.func118 rfl rfl ?_;show AW _ _ 20 _ _ _;refine af <| aa ?_;show AR _ _ _ _ _ [0, 1, 2, 3, 4] _;refine aq rfl rfl ?_
  first | (refine au rfl rfl (aj (av := .pt _ _) rfl) ?_) | (refine au rfl rfl (aj (av := .cp _) rfl) ?_) | (refine au rfl rfl (aj (av := .v _) rfl) ?_)
  refine aq rfl rfl ?_
  first | (refine au rfl rfl (ar rfl) ?_) | (refine au rfl rfl (aR rfl) ?_) | (refine au rfl rfl (bc rfl) ?_)
  refine aq rfl rfl <| au rfl rfl (al (n := 0) (by kernel_rfl) rfl) <| aq rfl rfl ?_
  first | refine au rfl rfl (aJ aN rfl rfl) ?_ | refine cq rfl rfl (am (i := 0) aN rfl rfl rfl rfl) ?_ | refine cq rfl rfl (am (i := 1) aN rfl rfl rfl rfl) ?_
  refine aq rfl rfl ?_
  first | (refine au rfl rfl (jn aN rfl rfl) ?_) | (refine au rfl rfl (ip aN rfl rfl) ?_)
  refine ag <| az rfl (fun c1 => ?_) (fun c1 => ?_)
  · have c1p := c1; try simp only [decide_eq_true_eq, decide_eq_false_iff_not, Bool.not_eq_true', Bool.not_eq_false', Bool.not_true, Bool.not_false, Bool.not_eq_eq_eq_not] at c1p
    refine aa ?_;show AR _ _ _ _ _ [0, 1, 2, 3, 4, 5, 6, 7] _;refine aq rfl rfl ?_
    first | (refine au rfl rfl (aj (av := .pt _ _) rfl) ?_) | (refine au rfl rfl (aj (av := .cp _) rfl) ?_) | (refine au rfl rfl (aj (av := .v _) rfl) ?_)
    refine aq rfl rfl ?_
    first | (refine au rfl rfl (aj (av := .pt _ _) rfl) ?_) | (refine au rfl rfl (aj (av := .cp _) rfl) ?_) | (refine au rfl rfl (aj (av := .v _) rfl) ?_)
    refine aq rfl rfl ?_
    first | (refine cq rfl rfl (iq (i := 0) (k := 2) aN cC (by kernel_rfl) (by decide) rfl rfl ?h1) ?_; (case h1 => (simp))) | (refine cq rfl rfl (iq (i := 1) (k := 2) aN cC (by kernel_rfl) (by decide) rfl rfl ?h2) ?_; (case h2 => (simp)))
    refine aq rfl rfl <| au rfl rfl (py (a := .pt _ _) Tryz.func168 ⟨by kernel_rfl, by kernel_rfl, by kernel_rfl, by kernel_rfl⟩ rfl) <| aq rfl rfl ?_
    first | refine cq rfl rfl (gh (i := 0) (j := 1) (k := 2) cC aN (by kernel_rfl) rfl rfl rfl (by kernel_rfl)) ?_ | refine cq rfl rfl (gh (i := 1) (j := 0) (k := 2) cC aN (by kernel_rfl) rfl rfl rfl (by kernel_rfl)) ?_
    refine aq rfl rfl ?_
    first | (refine au rfl rfl (ar rfl) ?_) | (refine au rfl rfl (aR rfl) ?_) | (refine au rfl rfl (bc rfl) ?_)
    refine aq rfl rfl <| au rfl rfl (al (n := 0) (by kernel_rfl) rfl) <| aq rfl rfl ?_
    first | (refine bR rfl (aw (i := 0) (c := .pt _ _) (by kernel_rfl) rfl rfl rfl rfl ?h4) ?_; (case h4 => (simp))) | (refine bR rfl (aw (i := 0) (c := .cp _) (by kernel_rfl) rfl rfl rfl rfl ?h5) ?_; (case h5 => (simp))) | (refine bR rfl (aw (i := 0) (c := .v _) (by kernel_rfl) rfl rfl rfl rfl ?h6) ?_; (case h6 => (simp))) | (refine bR rfl (aw (i := 1) (c := .pt _ _) (by kernel_rfl) rfl rfl rfl rfl ?h7) ?_; (case h7 => (simp))) | (refine bR rfl (aw (i := 1) (c := .cp _) (by kernel_rfl) rfl rfl rfl rfl ?h8) ?_; (case h8 => (simp))) | (refine bR rfl (aw (i := 1) (c := .v _) (by kernel_rfl) rfl rfl rfl rfl ?h9) ?_; (case h9 => (simp)))
    refine ag ?_
    -- END 1 (end)
    show cK _ _ _ _ .normal _
    (refine ⟨rfl, _, _, ck rfl, ?_, ⟨rfl, rfl⟩⟩; all_goals first | exact bp _ | exact bX _ | ((repeat (first | exact bp _ | exact bX _ | refine df _ ?_ | refine de _ ?_)); done) | exact Wv.refl _ | exact Wv.tok _ _ _ | exact Wv.nil _)
  · exact absurd c1 (by decide)
set_option maxRecDepth 100000 in
set_option maxHeartbeats 1000000 in
theorem mN (o : Nat) (b : AV) :
    ACalls Tryz.prog 118 [.pt o 0] [.obj o [.pt o 0, b], .ty o 91] (Ret (.tup []) [.obj o [.pt o 0, b], .ty o 91]) := by
  refine ax Tryz.func118 rfl rfl ?_;show AW _ _ 20 _ _ _;refine af <| aa ?_;show AR _ _ _ _ _ [0, 1, 2, 3, 4] _;refine aq rfl rfl ?_
  first | (refine au rfl rfl (aj (av := .pt _ _) rfl) ?_) | (refine au rfl rfl (aj (av := .cp _) rfl) ?_) | (refine au rfl rfl (aj (av := .v _) rfl) ?_)
  refine aq rfl rfl ?_
  first | (refine au rfl rfl (ar rfl) ?_) | (refine au rfl rfl (aR rfl) ?_) | (refine au rfl rfl (bc rfl) ?_)
  refine aq rfl rfl <| au rfl rfl (al (n := 0) (by kernel_rfl) rfl) <| aq rfl rfl ?_
  first | refine au rfl rfl (aJ aN rfl rfl) ?_ | refine cq rfl rfl (am (i := 0) aN rfl rfl rfl rfl) ?_ | refine cq rfl rfl (am (i := 1) aN rfl rfl rfl rfl) ?_
  refine aq rfl rfl ?_
  first | (refine au rfl rfl (jn aN rfl rfl) ?_) | (refine au rfl rfl (ip aN rfl rfl) ?_)
  refine ag <| az rfl (fun c1 => ?_) (fun c1 => ?_)
  · exact absurd c1 (by decide)
  · have c1p := c1; try simp only [decide_eq_true_eq, decide_eq_false_iff_not, Bool.not_eq_true', Bool.not_eq_false', Bool.not_true, Bool.not_false, Bool.not_eq_eq_eq_not] at c1p
    refine af <| aa ?_;show AR _ _ _ _ _ [0, 1, 2, 3, 4, 5] _;refine aq rfl rfl ?_
    first | (refine au rfl rfl (aj (av := .pt _ _) rfl) ?_) | (refine au rfl rfl (aj (av := .cp _) rfl) ?_) | (refine au rfl rfl (aj (av := .v _) rfl) ?_)
    refine aq rfl rfl ?_
    first | (refine au rfl rfl (ar rfl) ?_) | (refine au rfl rfl (aR rfl) ?_) | (refine au rfl rfl (bc rfl) ?_)
    refine aq rfl rfl <| au rfl rfl (al (n := 0) (by kernel_rfl) rfl) <| aq rfl rfl ?_
    first | refine au rfl rfl (aJ aN rfl rfl) ?_ | refine cq rfl rfl (am (i := 0) aN rfl rfl rfl rfl) ?_ | refine cq rfl rfl (am (i := 1) aN rfl rfl rfl rfl) ?_
    refine aq rfl rfl ?_
    first | (refine au rfl rfl (aj (av := .pt _ _) rfl) ?_) | (refine au rfl rfl (aj (av := .cp _) rfl) ?_) | (refine au rfl rfl (aj (av := .v _) rfl) ?_)
    refine aq rfl rfl ?_
    first | (refine au rfl rfl (od aN rfl rfl) ?_) | (refine au rfl rfl (nc aN rfl rfl) ?_) | (refine au rfl rfl (pz (k := 2) aN (by kernel_rfl) (by decide) rfl rfl) ?_)
    refine ag <| az rfl (fun c2 => ?_) (fun c2 => ?_)
    · have c2p := c2; try simp only [decide_eq_true_eq, decide_eq_false_iff_not, Bool.not_eq_true', Bool.not_eq_false', Bool.not_true, Bool.not_false, Bool.not_eq_eq_eq_not] at c2p
      exfalso; first | omega | simp_all
    · have c2p := c2; try simp only [decide_eq_true_eq, decide_eq_false_iff_not, Bool.not_eq_true', Bool.not_eq_false', Bool.not_true, Bool.not_false, Bool.not_eq_eq_eq_not] at c2p
      refine aC ?_
      -- END 1 (end)
      show cK _ _ _ _ .normal _
      (refine ⟨rfl, _, _, ck rfl, ?_, ⟨rfl, rfl⟩⟩; all_goals first | exact bp _ | exact bX _ | ((repeat (first | exact bp _ | exact bX _ | refine df _ ?_ | refine de _ ?_)); done) | exact Wv.refl _ | exact Wv.tok _ _ _ | exact Wv.nil _)
theorem fa (o : Nat) (a b : AV) (ha : a = .v (.pointer none) ∨ a = .pt o 0) : ACalls Tryz.prog 118 [.pt o 0] [.obj o [a, b], .ty o 91] (Ret (.tup []) [.obj o [.pt o 0, b], .ty o 91]) := by
  rcases ha with rfl | rfl
  · exact mO  o b
  · exact mN  o b
abbrev _root_.Go.Av.ac := @Tryz.underlying32
abbrev _root_.Go.Av.ab := @Tryz.underlying9
set_option maxRecDepth 100000 in
set_option maxHeartbeats 1000000 in
theorem bN (o : Nat) (a : AV) (ha : a = .v (.pointer none) ∨ a = .pt o 0) (l s : List UInt8) (t : Nat) (hl : l.length + s.length ≤ 1000000000) :
    ACalls Tryz.prog 62 [.pt o 0, S s] [.obj o [a, slE Enc.byte l (some t)], .ty o 91, .tok t 5] (fun e A' => e = .ret (.tup [i64 s.length, .v .nilIface]) ∧ ∃ t', A' = [.obj o [.pt o 0, slE Enc.byte (l ++ s) (some t')], .ty o 91, .tok t' 5]) := by
  refine ax Tryz.func62 rfl rfl ?_;show AW _ _ 19 _ _ _;refine af <| aa ?_;show AR _ _ _ _ _ [0, 1] _;refine aq rfl rfl <| au rfl rfl (aB (av := .v _) rfl) <| aq rfl rfl <| au rfl rfl (aB (av := .v _) rfl) <| ag <| af <| aa ?_;show AR _ _ _ _ _ [0, 1] _;refine aq rfl rfl ?_
  first | (refine au rfl rfl (aj (av := .pt _ _) rfl) ?_) | (refine au rfl rfl (aj (av := .cp _) rfl) ?_) | (refine au rfl rfl (aj (av := .v _) rfl) ?_)
  refine aq rfl rfl <| dD [.tok t 5] rfl vk rfl (fa  o a (slE Enc.byte l (some t)) ha) ?p1 ?k1 ?q1
  (case p1 => (exact bq _))
  (case q1 => (rintro c A' ⟨h, _⟩; cases h))
  rintro av A' ⟨h, rfl⟩; cases h
  refine ag <| af <| aa ?_;show AR _ _ _ _ _ [0, 1, 2, 3, 4, 5, 6, 7, 8, 9] _;refine aq rfl rfl ?_
  first | (refine au rfl rfl (aj (av := .pt _ _) rfl) ?_) | (refine au rfl rfl (aj (av := .cp _) rfl) ?_) | (refine au rfl rfl (aj (av := .v _) rfl) ?_)
  refine aq rfl rfl ?_
  first | (refine au rfl rfl (aj (av := .pt _ _) rfl) ?_) | (refine au rfl rfl (aj (av := .cp _) rfl) ?_) | (refine au rfl rfl (aj (av := .v _) rfl) ?_)
  refine aq rfl rfl ?_
  first | (refine au rfl rfl (ar rfl) ?_) | (refine au rfl rfl (aR rfl) ?_) | (refine au rfl rfl (bc rfl) ?_)
  refine aq rfl rfl <| au rfl rfl (al (n := 1) (by kernel_rfl) rfl) <| aq rfl rfl ?_
  first | refine au rfl rfl (aJ ac rfl rfl) ?_ | refine cq rfl rfl (am (i := 0) ac rfl rfl rfl rfl) ?_ | refine cq rfl rfl (am (i := 1) ac rfl rfl rfl rfl) ?_
  refine aq rfl rfl <| au rfl rfl (aj (av := .v _) rfl) <| aq rfl rfl ?_
  first | (refine AO.opx rfl rfl (di (bytes := 1) 0 ac ab rfl (by kernel_rfl) rfl rfl rfl ?h3 ?h4) ?_; (case h3 => (first | omega | (simp; done) | (simp; omega))); (case h4 => (first | omega | (simp; done) | (simp; omega)))) | (refine AO.opx rfl rfl (di (bytes := 1) 1 ac ab rfl (by kernel_rfl) rfl rfl rfl ?h5 ?h6) ?_; (case h5 => (first | omega | (simp; done) | (simp; omega))); (case h6 => (first | omega | (simp; done) | (simp; omega)))) | (refine AO.opx rfl rfl (di (bytes := 1) 2 ac ab rfl (by kernel_rfl) rfl rfl rfl ?h7 ?h8) ?_; (case h7 => (first | omega | (simp; done) | (simp; omega))); (case h8 => (first | omega | (simp; done) | (simp; omega)))) | (refine AO.opx rfl rfl (di (bytes := 1) 3 ac ab rfl (by kernel_rfl) rfl rfl rfl ?h9 ?h10) ?_; (case h9 => (first | omega | (simp; done) | (simp; omega))); (case h10 => (first | omega | (simp; done) | (simp; omega))))
  rintro _ _ ⟨t14, rfl, rfl⟩;refine aq rfl rfl ?_
  first | (refine au rfl rfl (ar rfl) ?_) | (refine au rfl rfl (aR rfl) ?_) | (refine au rfl rfl (bc rfl) ?_)
  refine aq rfl rfl <| au rfl rfl (al (n := 1) (by kernel_rfl) rfl) <| aq rfl rfl ?_
  first | (refine bR rfl (aw (i := 0) (c := slE _ _ _) (by kernel_rfl) rfl rfl rfl rfl ?h12) ?_; (case h12 => (simp))) | (refine bR rfl (aw (i := 0) (c := .v _) (by kernel_rfl) rfl rfl rfl rfl ?h13) ?_; (case h13 => (simp))) | (refine bR rfl (aw (i := 0) (c := .vw _ _ _ _) (by kernel_rfl) rfl rfl rfl rfl ?h14) ?_; (case h14 => (simp))) | (refine bR rfl (aw (i := 1) (c := slE _ _ _) (by kernel_rfl) rfl rfl rfl rfl ?h15) ?_; (case h15 => (simp))) | (refine bR rfl (aw (i := 1) (c := .v _) (by kernel_rfl) rfl rfl rfl rfl ?h16) ?_; (case h16 => (simp))) | (refine bR rfl (aw (i := 1) (c := .vw _ _ _ _) (by kernel_rfl) rfl rfl rfl rfl ?h17) ?_; (case h17 => (simp)))
  refine ag <| af <| aa ?_;show AR _ _ _ _ _ [0, 1, 2, 3] _;refine aq rfl rfl <| au rfl rfl (aj (av := .v _) rfl) <| aq rfl rfl <| au rfl rfl (aU ab rfl) <| aq rfl rfl <| au rfl rfl (aB (av := .v _) rfl) <| aq rfl rfl <| au rfl rfl (aB (av := .v _) rfl) <| ag <| aL ?_
  -- END 1 (ret)
  show cK _ _ _ _ .ret _;exact ⟨rfl, _, _, ResV.two (av := .v _) (bv := .v _) rfl rfl rfl, bp _, rfl, t14, rfl⟩
set_option maxRecDepth 100000 in
set_option maxHeartbeats 1000000 in
theorem qo (o : Nat) (a : AV) (ha : a = .v (.pointer none) ∨ a = .pt o 0) (l s : List UInt8) (q : Option Nat) (t : Nat) (hl : l.length + s.length ≤ 1000000000) :
    ACalls Tryz.prog 226 [.pt o 0, slE Enc.byte s q] [.obj o [a, slE Enc.byte l (some t)], .ty o 91, .tok t 5] (fun e A' => e = .ret (.tup [i64 s.length, .v .nilIface]) ∧ ∃ t', A' = [.obj o [.pt o 0, slE Enc.byte (l ++ s) (some t')], .ty o 91, .tok t' 5]) := by
  refine ax Tryz.func226 rfl rfl ?_;show AW _ _ 19 _ _ _;refine af <| aa ?_;show AR _ _ _ _ _ [0, 1] _;refine aq rfl rfl <| au rfl rfl (aB (av := .v _) rfl) <| aq rfl rfl <| au rfl rfl (aB (av := .v _) rfl) <| ag <| af <| aa ?_;show AR _ _ _ _ _ [0, 1] _;refine aq rfl rfl ?_
  first | (refine au rfl rfl (aj (av := .pt _ _) rfl) ?_) | (refine au rfl rfl (aj (av := .cp _) rfl) ?_) | (refine au rfl rfl (aj (av := .v _) rfl) ?_)
  refine aq rfl rfl <| dD [.tok t 5] rfl vk rfl (fa  o a (slE Enc.byte l (some t)) ha) ?p1 ?k1 ?q1
  (case p1 => (exact bq _))
  (case q1 => (rintro c A' ⟨h, _⟩; cases h))
  rintro av A' ⟨h, rfl⟩; cases h
  refine ag <| af <| aa ?_;show AR _ _ _ _ _ [0, 1, 2, 3, 4, 5, 6, 7, 8, 9] _;refine aq rfl rfl ?_
  first | (refine au rfl rfl (aj (av := .pt _ _) rfl) ?_) | (refine au rfl rfl (aj (av := .cp _) rfl) ?_) | (refine au rfl rfl (aj (av := .v _) rfl) ?_)
  refine aq rfl rfl ?_
  first | (refine au rfl rfl (aj (av := .pt _ _) rfl) ?_) | (refine au rfl rfl (aj (av := .cp _) rfl) ?_) | (refine au rfl rfl (aj (av := .v _) rfl) ?_)
  refine aq rfl rfl ?_
  first | (refine au rfl rfl (ar rfl) ?_) | (refine au rfl rfl (aR rfl) ?_) | (refine au rfl rfl (bc rfl) ?_)
  refine aq rfl rfl <| au rfl rfl (al (n := 1) (by kernel_rfl) rfl) <| aq rfl rfl ?_
  first | refine au rfl rfl (aJ ac rfl rfl) ?_ | refine cq rfl rfl (am (i := 0) ac rfl rfl rfl rfl) ?_ | refine cq rfl rfl (am (i := 1) ac rfl rfl rfl rfl) ?_
  refine aq rfl rfl ?_
  first | (refine au rfl rfl (aj (av := slE _ _ _) rfl) ?_) | (refine au rfl rfl (aj (av := .v _) rfl) ?_) | (refine au rfl rfl (aj (av := .vw _ _ _ _) rfl) ?_)
  refine aq rfl rfl ?_
  first | (refine AO.opx rfl rfl (jU (bytes := 1) 0 ac ac rfl (by kernel_rfl) rfl rfl rfl ?h3 ?h4) ?_; (case h3 => (first | omega | (simp; done) | (simp; omega))); (case h4 => (first | omega | (simp; done) | (simp; omega)))) | (refine AO.opx rfl rfl (jU (bytes := 1) 1 ac ac rfl (by kernel_rfl) rfl rfl rfl ?h5 ?h6) ?_; (case h5 => (first | omega | (simp; done) | (simp; omega))); (case h6 => (first | omega | (simp; done) | (simp; omega)))) | (refine AO.opx rfl rfl (jU (bytes := 1) 2 ac ac rfl (by kernel_rfl) rfl rfl rfl ?h7 ?h8) ?_; (case h7 => (first | omega | (simp; done) | (simp; omega))); (case h8 => (first | omega | (simp; done) | (simp; omega)))) | (refine AO.opx rfl rfl (jU (bytes := 1) 3 ac ac rfl (by kernel_rfl) rfl rfl rfl ?h9 ?h10) ?_; (case h9 => (first | omega | (simp; done) | (simp; omega))); (case h10 => (first | omega | (simp; done) | (simp; omega)))) | (refine AO.opx rfl rfl (lX (bytes := 1) ac ac rfl (by kernel_rfl) rfl rfl ?h11 ?h12) ?_; (case h11 => (first | omega | (simp; done) | (simp; omega))); (case h12 => (first | omega | (simp; done) | (simp; omega))))
  rintro _ _ ⟨t14, rfl, rfl⟩;refine aq rfl rfl ?_
  first | (refine au rfl rfl (ar rfl) ?_) | (refine au rfl rfl (aR rfl) ?_) | (refine au rfl rfl (bc rfl) ?_)
  refine aq rfl rfl <| au rfl rfl (al (n := 1) (by kernel_rfl) rfl) <| aq rfl rfl ?_
  first | (refine bR rfl (aw (i := 0) (c := slE _ _ _) (by kernel_rfl) rfl rfl rfl rfl ?h14) ?_; (case h14 => (simp))) | (refine bR rfl (aw (i := 0) (c := .v _) (by kernel_rfl) rfl rfl rfl rfl ?h15) ?_; (case h15 => (simp))) | (refine bR rfl (aw (i := 0) (c := .vw _ _ _ _) (by kernel_rfl) rfl rfl rfl rfl ?h16) ?_; (case h16 => (simp))) | (refine bR rfl (aw (i := 1) (c := slE _ _ _) (by kernel_rfl) rfl rfl rfl rfl ?h17) ?_; (case h17 => (simp))) | (refine bR rfl (aw (i := 1) (c := .v _) (by kernel_rfl) rfl rfl rfl rfl ?h18) ?_; (case h18 => (simp))) | (refine bR rfl (aw (i := 1) (c := .vw _ _ _ _) (by kernel_rfl) rfl rfl rfl rfl ?h19) ?_; (case h19 => (simp)))
  refine ag <| af <| aa ?_;show AR _ _ _ _ _ [0, 1, 2, 3] _;refine aq rfl rfl ?_
  first | (refine au rfl rfl (aj (av := slE _ _ _) rfl) ?_) | (refine au rfl rfl (aj (av := .v _) rfl) ?_) | (refine au rfl rfl (aj (av := .vw _ _ _ _) rfl) ?_)
  refine aq rfl rfl ?_
  first | (refine au rfl rfl (aQ ac rfl) ?_) | (refine au rfl rfl (cm ac rfl) ?_)
  refine aq rfl rfl <| au rfl rfl (aB (av := .v _) rfl) <| aq rfl rfl <| au rfl rfl (aB (av := .v _) rfl) <| ag <| aL ?_
  -- END 1 (ret)
  show cK _ _ _ _ .ret _;exact ⟨rfl, _, _, ResV.two (av := .v _) (bv := .v _) rfl rfl rfl, bp _, rfl, t14, rfl⟩
abbrev _root_.Go.Av.bi := @Tryz.underlying146
set_option maxRecDepth 100000 in
set_option maxHeartbeats 1000000 in
theorem fh (o : Nat) (a : AV) (l : List UInt8) (t : Nat) (hl : l.length ≤ 1000000000) :
    ACalls Tryz.prog 63 [.pt o 0] [.obj o [a, slE Enc.byte l (some t)], .tok t 5] (Ret (S l) [.obj o [a, slE Enc.byte l (some t)]]) := by
  refine ax Tryz.func63 rfl rfl ?_;show AW _ _ 14 _ _ _;refine af <| aa ?_;show AR _ _ _ _ _ [0] _;refine aq rfl rfl <| au rfl rfl (aB (av := .v _) rfl) <| ag <| af <| bz (by kernel_rfl) ?_;show AI _ _ _ _ _ 12 (Array.replicate 12 false) _
  first | (refine aM (i := 0) rfl rfl (by kernel_rfl) (by kernel_rfl) (by kernel_rfl) (fun _ _ h => by obtain ⟨_, _, _, h, _⟩ := h; cases h) (aj (av := .pt _ _) rfl) ?_) | (refine aM (i := 0) rfl rfl (by kernel_rfl) (by kernel_rfl) (by kernel_rfl) (fun _ _ h => by obtain ⟨_, _, _, h, _⟩ := h; cases h) (aj (av := .cp _) rfl) ?_) | (refine aM (i := 0) rfl rfl (by kernel_rfl) (by kernel_rfl) (by kernel_rfl) (fun _ _ h => by obtain ⟨_, _, _, h, _⟩ := h; cases h) (aj (av := .v _) rfl) ?_)
  show AI _ _ _ _ _ _ #[true, false, false, false, false, false, false, false, false, false, false, false] _
  first | (refine aM (i := 1) rfl rfl (by kernel_rfl) (by kernel_rfl) (by kernel_rfl) (fun _ _ h => by obtain ⟨_, _, _, h, _⟩ := h; cases h) (ar rfl) ?_) | (refine aM (i := 1) rfl rfl (by kernel_rfl) (by kernel_rfl) (by kernel_rfl) (fun _ _ h => by obtain ⟨_, _, _, h, _⟩ := h; cases h) (aR rfl) ?_) | (refine aM (i := 1) rfl rfl (by kernel_rfl) (by kernel_rfl) (by kernel_rfl) (fun _ _ h => by obtain ⟨_, _, _, h, _⟩ := h; cases h) (bc rfl) ?_)
  show AI _ _ _ _ _ _ #[true, true, false, false, false, false, false, false, false, false, false, false] _;refine aM (i := 2) rfl rfl (by kernel_rfl) (by kernel_rfl) (by kernel_rfl) (fun _ _ h => by obtain ⟨_, _, _, h, _⟩ := h; cases h) (al (n := 1) (by kernel_rfl) rfl) ?_;show AI _ _ _ _ _ _ #[true, true, true, false, false, false, false, false, false, false, false, false] _
  first | (refine aM (i := 5) rfl rfl (by kernel_rfl) (by kernel_rfl) (by kernel_rfl) (fun _ _ h => by obtain ⟨_, _, _, h, _⟩ := h; cases h) (aj (av := .pt _ _) rfl) ?_) | (refine aM (i := 5) rfl rfl (by kernel_rfl) (by kernel_rfl) (by kernel_rfl) (fun _ _ h => by obtain ⟨_, _, _, h, _⟩ := h; cases h) (aj (av := .cp _) rfl) ?_) | (refine aM (i := 5) rfl rfl (by kernel_rfl) (by kernel_rfl) (by kernel_rfl) (fun _ _ h => by obtain ⟨_, _, _, h, _⟩ := h; cases h) (aj (av := .v _) rfl) ?_)
  show AI _ _ _ _ _ _ #[true, true, true, false, false, true, false, false, false, false, false, false] _
  first | (refine aM (i := 6) rfl rfl (by kernel_rfl) (by kernel_rfl) (by kernel_rfl) (fun _ _ h => by obtain ⟨_, _, _, h, _⟩ := h; cases h) (ar rfl) ?_) | (refine aM (i := 6) rfl rfl (by kernel_rfl) (by kernel_rfl) (by kernel_rfl) (fun _ _ h => by obtain ⟨_, _, _, h, _⟩ := h; cases h) (aR rfl) ?_) | (refine aM (i := 6) rfl rfl (by kernel_rfl) (by kernel_rfl) (by kernel_rfl) (fun _ _ h => by obtain ⟨_, _, _, h, _⟩ := h; cases h) (bc rfl) ?_)
  show AI _ _ _ _ _ _ #[true, true, true, false, false, true, true, false, false, false, false, false] _;refine aM (i := 7) rfl rfl (by kernel_rfl) (by kernel_rfl) (by kernel_rfl) (fun _ _ h => by obtain ⟨_, _, _, h, _⟩ := h; cases h) (al (n := 1) (by kernel_rfl) rfl) ?_;show AI _ _ _ _ _ _ #[true, true, true, false, false, true, true, true, false, false, false, false] _;refine dE (i := 3) (j := 8) (by kernel_rfl) rfl rfl rfl rfl ?_ ?_
  · first | refine aW rfl (am (i := 0) ac rfl rfl rfl rfl) ?_ | refine aW rfl (am (i := 1) ac rfl rfl rfl rfl) ?_
    show AI _ _ _ _ _ _ #[true, true, true, true, false, true, true, true, false, false, false, false] _;refine dE (i := 4) (j := 8) (by kernel_rfl) rfl rfl rfl rfl ?_ ?_
    · first | refine aW rfl (cN (i := 0) bi rfl rfl) ?_ | refine aW rfl (cN (i := 1) bi rfl rfl) ?_
      show AI _ _ _ _ _ _ #[true, true, true, true, true, true, true, true, false, false, false, false] _;refine aX (i := 8) (by kernel_rfl) rfl rfl ?_
      first | refine aW rfl (am (i := 0) ac rfl rfl rfl rfl) ?_ | refine aW rfl (am (i := 1) ac rfl rfl rfl rfl) ?_
      show AI _ _ _ _ _ _ #[true, true, true, true, true, true, true, true, true, false, false, false] _
      first | (refine aM (i := 9) rfl rfl (by kernel_rfl) (by kernel_rfl) (by kernel_rfl) (fun _ _ h => by obtain ⟨_, _, _, h, _⟩ := h; cases h) (aQ ac rfl) ?_) | (refine aM (i := 9) rfl rfl (by kernel_rfl) (by kernel_rfl) (by kernel_rfl) (fun _ _ h => by obtain ⟨_, _, _, h, _⟩ := h; cases h) (cm ac rfl) ?_)
      show AI _ _ _ _ _ _ #[true, true, true, true, true, true, true, true, true, true, false, false] _;refine aX (i := 10) (by kernel_rfl) rfl rfl ?_
      first | (refine aW rfl (ci (i := 0) (El := 5) bi (by kernel_rfl) rfl rfl rfl ?h2 rfl) ?_; (case h2 => (first | omega | (simp; omega)))) | (refine aW rfl (ci (i := 1) (El := 5) bi (by kernel_rfl) rfl rfl rfl ?h3 rfl) ?_; (case h3 => (first | omega | (simp; omega))))
      show AI _ _ _ _ _ _ #[true, true, true, true, true, true, true, true, true, true, true, false] _;refine aM (i := 11) rfl rfl (by kernel_rfl) (by kernel_rfl) (by kernel_rfl) (fun _ _ h => by obtain ⟨_, _, _, h, _⟩ := h; cases h) (aB (av := .v _) rfl) ?_;show AI _ _ _ _ _ _ #[true, true, true, true, true, true, true, true, true, true, true, true] _;refine bE rfl <| aL ?_
      -- END 1 (ret)
      show cK _ _ _ _ .ret _
      (refine ⟨rfl, _, _, aH rfl ?_, ?_, ⟨rfl, rfl⟩⟩; all_goals first | exact bp _ | exact bX _ | ((repeat (first | exact bp _ | exact bX _ | refine df _ ?_ | refine de _ ?_)); done) | exact Wv.refl _ | exact Wv.tok _ _ _ | exact Wv.nil _)
    · first | refine aW rfl (am (i := 0) ac rfl rfl rfl rfl) ?_ | refine aW rfl (am (i := 1) ac rfl rfl rfl rfl) ?_
      show AI _ _ _ _ _ _ #[true, true, true, true, false, true, true, true, true, false, false, false] _
      first | (refine aM (i := 9) rfl rfl (by kernel_rfl) (by kernel_rfl) (by kernel_rfl) (fun _ _ h => by obtain ⟨_, _, _, h, _⟩ := h; cases h) (aQ ac rfl) ?_) | (refine aM (i := 9) rfl rfl (by kernel_rfl) (by kernel_rfl) (by kernel_rfl) (fun _ _ h => by obtain ⟨_, _, _, h, _⟩ := h; cases h) (cm ac rfl) ?_)
      show AI _ _ _ _ _ _ #[true, true, true, true, false, true, true, true, true, true, false, false] _;refine aX (i := 4) (by kernel_rfl) rfl rfl ?_
      first | refine aW rfl (cN (i := 0) bi rfl rfl) ?_ | refine aW rfl (cN (i := 1) bi rfl rfl) ?_
      show AI _ _ _ _ _ _ #[true, true, true, true, true, true, true, true, true, true, false, false] _;refine aX (i := 10) (by kernel_rfl) rfl rfl ?_
      first | (refine aW rfl (ci (i := 0) (El := 5) bi (by kernel_rfl) rfl rfl rfl ?h5 rfl) ?_; (case h5 => (first | omega | (simp; omega)))) | (refine aW rfl (ci (i := 1) (El := 5) bi (by kernel_rfl) rfl rfl rfl ?h6 rfl) ?_; (case h6 => (first | omega | (simp; omega))))
      show AI _ _ _ _ _ _ #[true, true, true, true, true, true, true, true, true, true, true, false] _;refine aM (i := 11) rfl rfl (by kernel_rfl) (by kernel_rfl) (by kernel_rfl) (fun _ _ h => by obtain ⟨_, _, _, h, _⟩ := h; cases h) (aB (av := .v _) rfl) ?_;show AI _ _ _ _ _ _ #[true, true, true, true, true, true, true, true, true, true, true, true] _;refine bE rfl <| aL ?_
      -- END 2 (ret)
      show cK _ _ _ _ .ret _
      (refine ⟨rfl, _, _, aH rfl ?_, ?_, ⟨rfl, rfl⟩⟩; all_goals first | exact bp _ | exact bX _ | ((repeat (first | exact bp _ | exact bX _ | refine df _ ?_ | refine de _ ?_)); done) | exact Wv.refl _ | exact Wv.tok _ _ _ | exact Wv.nil _)
  · first | refine aW rfl (am (i := 0) ac rfl rfl rfl rfl) ?_ | refine aW rfl (am (i := 1) ac rfl rfl rfl rfl) ?_
    show AI _ _ _ _ _ _ #[true, true, true, false, false, true, true, true, true, false, false, false] _
    first | (refine aM (i := 9) rfl rfl (by kernel_rfl) (by kernel_rfl) (by kernel_rfl) (fun _ _ h => by obtain ⟨_, _, _, h, _⟩ := h; cases h) (aQ ac rfl) ?_) | (refine aM (i := 9) rfl rfl (by kernel_rfl) (by kernel_rfl) (by kernel_rfl) (fun _ _ h => by obtain ⟨_, _, _, h, _⟩ := h; cases h) (cm ac rfl) ?_)
    show AI _ _ _ _ _ _ #[true, true, true, false, false, true, true, true, true, true, false, false] _;refine aX (i := 3) (by kernel_rfl) rfl rfl ?_
    first | refine aW rfl (am (i := 0) ac rfl rfl rfl rfl) ?_ | refine aW rfl (am (i := 1) ac rfl rfl rfl rfl) ?_
    show AI _ _ _ _ _ _ #[true, true, true, true, false, true, true, true, true, true, false, false] _;refine aX (i := 4) (by kernel_rfl) rfl rfl ?_
    first | refine aW rfl (cN (i := 0) bi rfl rfl) ?_ | refine aW rfl (cN (i := 1) bi rfl rfl) ?_
    show AI _ _ _ _ _ _ #[true, true, true, true, true, true, true, true, true, true, false, false] _;refine aX (i := 10) (by kernel_rfl) rfl rfl ?_
    first | (refine aW rfl (ci (i := 0) (El := 5) bi (by kernel_rfl) rfl rfl rfl ?h8 rfl) ?_; (case h8 => (first | omega | (simp; omega)))) | (refine aW rfl (ci (i := 1) (El := 5) bi (by kernel_rfl) rfl rfl rfl ?h9 rfl) ?_; (case h9 => (first | omega | (simp; omega))))
    show AI _ _ _ _ _ _ #[true, true, true, true, true, true, true, true, true, true, true, false] _;refine aM (i := 11) rfl rfl (by kernel_rfl) (by kernel_rfl) (by kernel_rfl) (fun _ _ h => by obtain ⟨_, _, _, h, _⟩ := h; cases h) (aB (av := .v _) rfl) ?_;show AI _ _ _ _ _ _ #[true, true, true, true, true, true, true, true, true, true, true, true] _;refine bE rfl <| aL ?_
    -- END 3 (ret)
    show cK _ _ _ _ .ret _
    (refine ⟨rfl, _, _, aH rfl ?_, ?_, ⟨rfl, rfl⟩⟩; all_goals first | exact bp _ | exact bX _ | ((repeat (first | exact bp _ | exact bX _ | refine df _ ?_ | refine de _ ?_)); done) | exact Wv.refl _ | exact Wv.tok _ _ _ | exact Wv.nil _)
set_option maxRecDepth 100000 in
set_option maxHeartbeats 1000000 in
theorem iy (o : Nat) (a : AV) (n : Nat) (hn : n ≤ 1000000000) :
    ACalls Tryz.prog 193 [.pt o 0, i64 n] [.obj o [a, ah]] (fun e A' => e = .ret (.tup []) ∧ ∃ t', A' = [.tok t' 5, .obj o [a, slE Enc.byte [] (some t')]]) := by
  refine ax Tryz.func193 rfl rfl ?_;show AW _ _ 30 _ _ _;refine af <| bz (by kernel_rfl) ?_;show AI _ _ _ _ _ 16 (Array.replicate 16 false) _
  first | (refine aM (i := 0) rfl rfl (by kernel_rfl) (by kernel_rfl) (by kernel_rfl) (fun _ _ h => by obtain ⟨_, _, _, h, _⟩ := h; cases h) (aj (av := .pt _ _) rfl) ?_) | (refine aM (i := 0) rfl rfl (by kernel_rfl) (by kernel_rfl) (by kernel_rfl) (fun _ _ h => by obtain ⟨_, _, _, h, _⟩ := h; cases h) (aj (av := .cp _) rfl) ?_) | (refine aM (i := 0) rfl rfl (by kernel_rfl) (by kernel_rfl) (by kernel_rfl) (fun _ _ h => by obtain ⟨_, _, _, h, _⟩ := h; cases h) (aj (av := .v _) rfl) ?_)
  show AI _ _ _ _ _ _ #[true, false, false, false, false, false, false, false, false, false, false, false, false, false, false, false] _
  first | (refine aM (i := 1) rfl rfl (by kernel_rfl) (by kernel_rfl) (by kernel_rfl) (fun _ _ h => by obtain ⟨_, _, _, h, _⟩ := h; cases h) (ar rfl) ?_) | (refine aM (i := 1) rfl rfl (by kernel_rfl) (by kernel_rfl) (by kernel_rfl) (fun _ _ h => by obtain ⟨_, _, _, h, _⟩ := h; cases h) (aR rfl) ?_) | (refine aM (i := 1) rfl rfl (by kernel_rfl) (by kernel_rfl) (by kernel_rfl) (fun _ _ h => by obtain ⟨_, _, _, h, _⟩ := h; cases h) (bc rfl) ?_)
  show AI _ _ _ _ _ _ #[true, true, false, false, false, false, false, false, false, false, false, false, false, false, false, false] _;refine aM (i := 2) rfl rfl (by kernel_rfl) (by kernel_rfl) (by kernel_rfl) (fun _ _ h => by obtain ⟨_, _, _, h, _⟩ := h; cases h) (al (n := 1) (by kernel_rfl) rfl) ?_;show AI _ _ _ _ _ _ #[true, true, true, false, false, false, false, false, false, false, false, false, false, false, false, false] _;refine aM (i := 6) rfl rfl (by kernel_rfl) (by kernel_rfl) (by kernel_rfl) (fun _ _ h => by obtain ⟨_, _, _, h, _⟩ := h; cases h) (aj (av := .v _) rfl) ?_;show AI _ _ _ _ _ _ #[true, true, true, false, false, false, true, false, false, false, false, false, false, false, false, false] _
  first | (refine aM (i := 9) rfl rfl (by kernel_rfl) (by kernel_rfl) (by kernel_rfl) (fun _ _ h => by obtain ⟨_, _, _, h, _⟩ := h; cases h) (aj (av := .pt _ _) rfl) ?_) | (refine aM (i := 9) rfl rfl (by kernel_rfl) (by kernel_rfl) (by kernel_rfl) (fun _ _ h => by obtain ⟨_, _, _, h, _⟩ := h; cases h) (aj (av := .cp _) rfl) ?_) | (refine aM (i := 9) rfl rfl (by kernel_rfl) (by kernel_rfl) (by kernel_rfl) (fun _ _ h => by obtain ⟨_, _, _, h, _⟩ := h; cases h) (aj (av := .v _) rfl) ?_)
  show AI _ _ _ _ _ _ #[true, true, true, false, false, false, true, false, false, true, false, false, false, false, false, false] _
  first | (refine aM (i := 10) rfl rfl (by kernel_rfl) (by kernel_rfl) (by kernel_rfl) (fun _ _ h => by obtain ⟨_, _, _, h, _⟩ := h; cases h) (ar rfl) ?_) | (refine aM (i := 10) rfl rfl (by kernel_rfl) (by kernel_rfl) (by kernel_rfl) (fun _ _ h => by obtain ⟨_, _, _, h, _⟩ := h; cases h) (aR rfl) ?_) | (refine aM (i := 10) rfl rfl (by kernel_rfl) (by kernel_rfl) (by kernel_rfl) (fun _ _ h => by obtain ⟨_, _, _, h, _⟩ := h; cases h) (bc rfl) ?_)
  show AI _ _ _ _ _ _ #[true, true, true, false, false, false, true, false, false, true, true, false, false, false, false, false] _;refine aM (i := 11) rfl rfl (by kernel_rfl) (by kernel_rfl) (by kernel_rfl) (fun _ _ h => by obtain ⟨_, _, _, h, _⟩ := h; cases h) (al (n := 1) (by kernel_rfl) rfl) ?_;show AI _ _ _ _ _ _ #[true, true, true, false, false, false, true, false, false, true, true, true, false, false, false, false] _;refine dE (i := 3) (j := 12) (by kernel_rfl) rfl rfl rfl rfl ?_ ?_
  · first | refine aW rfl (am (i := 0) ac rfl rfl rfl rfl) ?_ | refine aW rfl (am (i := 1) ac rfl rfl rfl rfl) ?_
    show AI _ _ _ _ _ _ #[true, true, true, true, false, false, true, false, false, true, true, true, false, false, false, false] _
    first | (refine aM (i := 4) rfl rfl (by kernel_rfl) (by kernel_rfl) (by kernel_rfl) (fun _ _ h => by obtain ⟨_, _, _, h, _⟩ := h; cases h) (gp ac rfl) ?_) | (refine aM (i := 4) rfl rfl (by kernel_rfl) (by kernel_rfl) (by kernel_rfl) (fun _ _ h => by obtain ⟨_, _, _, h, _⟩ := h; cases h) (opS_cap_vw ac rfl) ?_)
    show AI _ _ _ _ _ _ #[true, true, true, true, true, false, true, false, false, true, true, true, false, false, false, false] _
    refine aM (i := 5) rfl rfl (by kernel_rfl) (by kernel_rfl) (by kernel_rfl) (fun _ _ h => by obtain ⟨_, _, _, h, _⟩ := h; cases h) (qe rfl rfl ?h2) ?_; (case h2 => (omega))
    show AI _ _ _ _ _ _ #[true, true, true, true, true, true, true, false, false, true, true, true, false, false, false, false] _
    refine aM (i := 7) rfl rfl (by kernel_rfl) (by kernel_rfl) (by kernel_rfl) (fun _ _ h => by obtain ⟨_, _, _, h, _⟩ := h; cases h) (lN rfl rfl ?h4) ?_; (case h4 => (omega))
    show AI _ _ _ _ _ _ #[true, true, true, true, true, true, true, true, false, true, true, true, false, false, false, false] _;refine dE (i := 8) (j := 12) (by kernel_rfl) rfl rfl rfl rfl ?_ ?_
    · refine cf rfl (jJ (m := n) (ps := #[3]) (t0 := 32) Tryz.func131 ⟨by kernel_rfl, by kernel_rfl, by kernel_rfl, by kernel_rfl⟩ ac rfl ?h7 ?h8) ?_; (case h7 => (omega)); (case h8 => (first | omega | (simp; omega)))
      rintro _ _ ⟨t13, rfl, rfl⟩;show AI _ _ _ _ _ _ #[true, true, true, true, true, true, true, true, true, true, true, true, false, false, false, false] _;refine aX (i := 12) (by kernel_rfl) rfl rfl ?_
      first | refine aW rfl (am (i := 0) ac rfl rfl rfl rfl) ?_ | refine aW rfl (am (i := 1) ac rfl rfl rfl rfl) ?_
      show AI _ _ _ _ _ _ #[true, true, true, true, true, true, true, true, true, true, true, true, true, false, false, false] _
      first | (refine aM (i := 13) rfl rfl (by kernel_rfl) (by kernel_rfl) (by kernel_rfl) (fun _ _ h => by obtain ⟨_, _, _, h, _⟩ := h; cases h) (aQ ac rfl) ?_) | (refine aM (i := 13) rfl rfl (by kernel_rfl) (by kernel_rfl) (by kernel_rfl) (fun _ _ h => by obtain ⟨_, _, _, h, _⟩ := h; cases h) (cm ac rfl) ?_)
      show AI _ _ _ _ _ _ #[true, true, true, true, true, true, true, true, true, true, true, true, true, true, false, false] _
      refine aM (i := 14) rfl rfl (by kernel_rfl) (by kernel_rfl) (by kernel_rfl) (fun _ _ h => by obtain ⟨_, _, _, h, _⟩ := h; cases h) (lu (E := Enc.byte) ac (by kernel_rfl) rfl rfl rfl ?h9) ?_; (case h9 => (first | rfl | omega))
      show AI _ _ _ _ _ _ #[true, true, true, true, true, true, true, true, true, true, true, true, true, true, true, false] _
      first | (refine aM (i := 15) rfl rfl (by kernel_rfl) (by kernel_rfl) (by kernel_rfl) (fun _ _ h => by obtain ⟨_, _, _, h, _⟩ := h; cases h) (aB (av := slE _ _ _) rfl) ?_) | (refine aM (i := 15) rfl rfl (by kernel_rfl) (by kernel_rfl) (by kernel_rfl) (fun _ _ h => by obtain ⟨_, _, _, h, _⟩ := h; cases h) (aB (av := .v _) rfl) ?_) | (refine aM (i := 15) rfl rfl (by kernel_rfl) (by kernel_rfl) (by kernel_rfl) (fun _ _ h => by obtain ⟨_, _, _, h, _⟩ := h; cases h) (aB (av := .vw _ _ _ _) rfl) ?_)
      show AI _ _ _ _ _ _ #[true, true, true, true, true, true, true, true, true, true, true, true, true, true, true, true] _;refine bE rfl <| af <| aa ?_;show AR _ _ _ _ _ [0, 1, 2, 3, 4, 5] _;refine aq rfl rfl ?_
      first | (refine au rfl rfl (aj (av := slE _ _ _) rfl) ?_) | (refine au rfl rfl (aj (av := .v _) rfl) ?_) | (refine au rfl rfl (aj (av := .vw _ _ _ _) rfl) ?_)
      refine aq rfl rfl ?_
      first | (refine au rfl rfl (aj (av := .pt _ _) rfl) ?_) | (refine au rfl rfl (aj (av := .cp _) rfl) ?_) | (refine au rfl rfl (aj (av := .v _) rfl) ?_)
      refine aq rfl rfl ?_
      first | (refine au rfl rfl (ar rfl) ?_) | (refine au rfl rfl (aR rfl) ?_) | (refine au rfl rfl (bc rfl) ?_)
      refine aq rfl rfl <| au rfl rfl (al (n := 1) (by kernel_rfl) rfl) <| aq rfl rfl ?_
      first | refine au rfl rfl (aJ ac rfl rfl) ?_ | refine cq rfl rfl (am (i := 0) ac rfl rfl rfl rfl) ?_ | refine cq rfl rfl (am (i := 1) ac rfl rfl rfl rfl) ?_
      refine aq rfl rfl ?_
      first | (refine cq rfl rfl (OpS.opR (kF (E := Enc.byte) ac (by kernel_rfl) rfl rfl) _) ?_) | (refine cq rfl rfl (fc (E := Enc.byte) (i := 0) ac (by kernel_rfl) rfl rfl rfl ?h12 ?h13) ?_; (case h12 => (first | omega | (simp; omega))); (case h13 => (first | omega | (simp; omega)))) | (refine cq rfl rfl (fc (E := Enc.byte) (i := 1) ac (by kernel_rfl) rfl rfl rfl ?h14 ?h15) ?_; (case h14 => (first | omega | (simp; omega))); (case h15 => (first | omega | (simp; omega)))) | (refine cq rfl rfl (fO (i := 0) ac (by kernel_rfl) rfl rfl rfl ?h16 ?h17) ?_; (case h16 => (first | omega | (simp; omega))); (case h17 => (first | omega | (simp; omega)))) | (refine cq rfl rfl (fO (i := 1) ac (by kernel_rfl) rfl rfl rfl ?h18 ?h19) ?_; (case h18 => (first | omega | (simp; omega))); (case h19 => (first | omega | (simp; omega))))
      refine ag <| aa ?_;show AR _ _ _ _ _ [0, 1, 2, 3, 4] _;refine aq rfl rfl ?_
      first | (refine au rfl rfl (aj (av := .pt _ _) rfl) ?_) | (refine au rfl rfl (aj (av := .cp _) rfl) ?_) | (refine au rfl rfl (aj (av := .v _) rfl) ?_)
      refine aq rfl rfl ?_
      first | (refine au rfl rfl (aj (av := slE _ _ _) rfl) ?_) | (refine au rfl rfl (aj (av := .v _) rfl) ?_) | (refine au rfl rfl (aj (av := .vw _ _ _ _) rfl) ?_)
      refine aq rfl rfl ?_
      first | (refine au rfl rfl (ar rfl) ?_) | (refine au rfl rfl (aR rfl) ?_) | (refine au rfl rfl (bc rfl) ?_)
      refine aq rfl rfl <| au rfl rfl (al (n := 1) (by kernel_rfl) rfl) <| aq rfl rfl ?_
      first | (refine bR rfl (aw (i := 0) (c := slE _ _ _) (by kernel_rfl) rfl rfl rfl rfl ?h21) ?_; (case h21 => (simp))) | (refine bR rfl (aw (i := 0) (c := .v _) (by kernel_rfl) rfl rfl rfl rfl ?h22) ?_; (case h22 => (simp))) | (refine bR rfl (aw (i := 0) (c := .vw _ _ _ _) (by kernel_rfl) rfl rfl rfl rfl ?h23) ?_; (case h23 => (simp))) | (refine bR rfl (aw (i := 1) (c := slE _ _ _) (by kernel_rfl) rfl rfl rfl rfl ?h24) ?_; (case h24 => (simp))) | (refine bR rfl (aw (i := 1) (c := .v _) (by kernel_rfl) rfl rfl rfl rfl ?h25) ?_; (case h25 => (simp))) | (refine bR rfl (aw (i := 1) (c := .vw _ _ _ _) (by kernel_rfl) rfl rfl rfl rfl ?h26) ?_; (case h26 => (simp)))
      refine ag ?_
      -- END 1 (end)
      show cK _ _ _ _ .normal _;exact ⟨rfl, _, _, eY rfl, bp _, rfl, t13, rfl⟩
    · first | refine aW rfl (am (i := 0) ac rfl rfl rfl rfl) ?_ | refine aW rfl (am (i := 1) ac rfl rfl rfl rfl) ?_
      show AI _ _ _ _ _ _ #[true, true, true, true, true, true, true, true, false, true, true, true, true, false, false, false] _
      first | (refine aM (i := 13) rfl rfl (by kernel_rfl) (by kernel_rfl) (by kernel_rfl) (fun _ _ h => by obtain ⟨_, _, _, h, _⟩ := h; cases h) (aQ ac rfl) ?_) | (refine aM (i := 13) rfl rfl (by kernel_rfl) (by kernel_rfl) (by kernel_rfl) (fun _ _ h => by obtain ⟨_, _, _, h, _⟩ := h; cases h) (cm ac rfl) ?_)
      show AI _ _ _ _ _ _ #[true, true, true, true, true, true, true, true, false, true, true, true, true, true, false, false] _;refine aX (i := 8) (by kernel_rfl) rfl rfl ?_
      refine cf rfl (jJ (m := n) (ps := #[3]) (t0 := 32) Tryz.func131 ⟨by kernel_rfl, by kernel_rfl, by kernel_rfl, by kernel_rfl⟩ ac rfl ?h29 ?h30) ?_; (case h29 => (omega)); (case h30 => (first | omega | (simp; omega)))
      rintro _ _ ⟨t13, rfl, rfl⟩;show AI _ _ _ _ _ _ #[true, true, true, true, true, true, true, true, true, true, true, true, true, true, false, false] _
      refine aM (i := 14) rfl rfl (by kernel_rfl) (by kernel_rfl) (by kernel_rfl) (fun _ _ h => by obtain ⟨_, _, _, h, _⟩ := h; cases h) (lu (E := Enc.byte) ac (by kernel_rfl) rfl rfl rfl ?h31) ?_; (case h31 => (first | rfl | omega))
      show AI _ _ _ _ _ _ #[true, true, true, true, true, true, true, true, true, true, true, true, true, true, true, false] _
      first | (refine aM (i := 15) rfl rfl (by kernel_rfl) (by kernel_rfl) (by kernel_rfl) (fun _ _ h => by obtain ⟨_, _, _, h, _⟩ := h; cases h) (aB (av := slE _ _ _) rfl) ?_) | (refine aM (i := 15) rfl rfl (by kernel_rfl) (by kernel_rfl) (by kernel_rfl) (fun _ _ h => by obtain ⟨_, _, _, h, _⟩ := h; cases h) (aB (av := .v _) rfl) ?_) | (refine aM (i := 15) rfl rfl (by kernel_rfl) (by kernel_rfl) (by kernel_rfl) (fun _ _ h => by obtain ⟨_, _, _, h, _⟩ := h; cases h) (aB (av := .vw _ _ _ _) rfl) ?_)
      show AI _ _ _ _ _ _ #[true, true, true, true, true, true, true, true, true, true, true, true, true, true, true, true] _;refine bE rfl <| af <| aa ?_;show AR _ _ _ _ _ [0, 1, 2, 3, 4, 5] _;refine aq rfl rfl ?_
      first | (refine au rfl rfl (aj (av := slE _ _ _) rfl) ?_) | (refine au rfl rfl (aj (av := .v _) rfl) ?_) | (refine au rfl rfl (aj (av := .vw _ _ _ _) rfl) ?_)
      refine aq rfl rfl ?_
      first | (refine au rfl rfl (aj (av := .pt _ _) rfl) ?_) | (refine au rfl rfl (aj (av := .cp _) rfl) ?_) | (refine au rfl rfl (aj (av := .v _) rfl) ?_)
      refine aq rfl rfl ?_
      first | (refine au rfl rfl (ar rfl) ?_) | (refine au rfl rfl (aR rfl) ?_) | (refine au rfl rfl (bc rfl) ?_)
      refine aq rfl rfl <| au rfl rfl (al (n := 1) (by kernel_rfl) rfl) <| aq rfl rfl ?_
      first | refine au rfl rfl (aJ ac rfl rfl) ?_ | refine cq rfl rfl (am (i := 0) ac rfl rfl rfl rfl) ?_ | refine cq rfl rfl (am (i := 1) ac rfl rfl rfl rfl) ?_
      refine aq rfl rfl ?_
      first | (refine cq rfl rfl (OpS.opR (kF (E := Enc.byte) ac (by kernel_rfl) rfl rfl) _) ?_) | (refine cq rfl rfl (fc (E := Enc.byte) (i := 0) ac (by kernel_rfl) rfl rfl rfl ?h34 ?h35) ?_; (case h34 => (first | omega | (simp; omega))); (case h35 => (first | omega | (simp; omega)))) | (refine cq rfl rfl (fc (E := Enc.byte) (i := 1) ac (by kernel_rfl) rfl rfl rfl ?h36 ?h37) ?_; (case h36 => (first | omega | (simp; omega))); (case h37 => (first | omega | (simp; omega)))) | (refine cq rfl rfl (fO (i := 0) ac (by kernel_rfl) rfl rfl rfl ?h38 ?h39) ?_; (case h38 => (first | omega | (simp; omega))); (case h39 => (first | omega | (simp; omega)))) | (refine cq rfl rfl (fO (i := 1) ac (by kernel_rfl) rfl rfl rfl ?h40 ?h41) ?_; (case h40 => (first | omega | (simp; omega))); (case h41 => (first | omega | (simp; omega))))
      refine ag <| aa ?_;show AR _ _ _ _ _ [0, 1, 2, 3, 4] _;refine aq rfl rfl ?_
      first | (refine au rfl rfl (aj (av := .pt _ _) rfl) ?_) | (refine au rfl rfl (aj (av := .cp _) rfl) ?_) | (refine au rfl rfl (aj (av := .v _) rfl) ?_)
      refine aq rfl rfl ?_
      first | (refine au rfl rfl (aj (av := slE _ _ _) rfl) ?_) | (refine au rfl rfl (aj (av := .v _) rfl) ?_) | (refine au rfl rfl (aj (av := .vw _ _ _ _) rfl) ?_)
      refine aq rfl rfl ?_
      first | (refine au rfl rfl (ar rfl) ?_) | (refine au rfl rfl (aR rfl) ?_) | (refine au rfl rfl (bc rfl) ?_)
      refine aq rfl rfl <| au rfl rfl (al (n := 1) (by kernel_rfl) rfl) <| aq rfl rfl ?_
      first | (refine bR rfl (aw (i := 0) (c := slE _ _ _) (by kernel_rfl) rfl rfl rfl rfl ?h43) ?_; (case h43 => (simp))) | (refine bR rfl (aw (i := 0) (c := .v _) (by kernel_rfl) rfl rfl rfl rfl ?h44) ?_; (case h44 => (simp))) | (refine bR rfl (aw (i := 0) (c := .vw _ _ _ _) (by kernel_rfl) rfl rfl rfl rfl ?h45) ?_; (case h45 => (simp))) | (refine bR rfl (aw (i := 1) (c := slE _ _ _) (by kernel_rfl) rfl rfl rfl rfl ?h46) ?_; (case h46 => (simp))) | (refine bR rfl (aw (i := 1) (c := .v _) (by kernel_rfl) rfl rfl rfl rfl ?h47) ?_; (case h47 => (simp))) | (refine bR rfl (aw (i := 1) (c := .vw _ _ _ _) (by kernel_rfl) rfl rfl rfl rfl ?h48) ?_; (case h48 => (simp)))
      refine ag ?_
      -- END 2 (end)
      show cK _ _ _ _ .normal _;exact ⟨rfl, _, _, eY rfl, bp _, rfl, t13, rfl⟩
  · first | refine aW rfl (am (i := 0) ac rfl rfl rfl rfl) ?_ | refine aW rfl (am (i := 1) ac rfl rfl rfl rfl) ?_
    show AI _ _ _ _ _ _ #[true, true, true, false, false, false, true, false, false, true, true, true, true, false, false, false] _
    first | (refine aM (i := 13) rfl rfl (by kernel_rfl) (by kernel_rfl) (by kernel_rfl) (fun _ _ h => by obtain ⟨_, _, _, h, _⟩ := h; cases h) (aQ ac rfl) ?_) | (refine aM (i := 13) rfl rfl (by kernel_rfl) (by kernel_rfl) (by kernel_rfl) (fun _ _ h => by obtain ⟨_, _, _, h, _⟩ := h; cases h) (cm ac rfl) ?_)
    show AI _ _ _ _ _ _ #[true, true, true, false, false, false, true, false, false, true, true, true, true, true, false, false] _;refine aX (i := 3) (by kernel_rfl) rfl rfl ?_
    first | refine aW rfl (am (i := 0) ac rfl rfl rfl rfl) ?_ | refine aW rfl (am (i := 1) ac rfl rfl rfl rfl) ?_
    show AI _ _ _ _ _ _ #[true, true, true, true, false, false, true, false, false, true, true, true, true, true, false, false] _
    first | (refine aM (i := 4) rfl rfl (by kernel_rfl) (by kernel_rfl) (by kernel_rfl) (fun _ _ h => by obtain ⟨_, _, _, h, _⟩ := h; cases h) (gp ac rfl) ?_) | (refine aM (i := 4) rfl rfl (by kernel_rfl) (by kernel_rfl) (by kernel_rfl) (fun _ _ h => by obtain ⟨_, _, _, h, _⟩ := h; cases h) (opS_cap_vw ac rfl) ?_)
    show AI _ _ _ _ _ _ #[true, true, true, true, true, false, true, false, false, true, true, true, true, true, false, false] _
    refine aM (i := 5) rfl rfl (by kernel_rfl) (by kernel_rfl) (by kernel_rfl) (fun _ _ h => by obtain ⟨_, _, _, h, _⟩ := h; cases h) (qe rfl rfl ?h50) ?_; (case h50 => (omega))
    show AI _ _ _ _ _ _ #[true, true, true, true, true, true, true, false, false, true, true, true, true, true, false, false] _
    refine aM (i := 7) rfl rfl (by kernel_rfl) (by kernel_rfl) (by kernel_rfl) (fun _ _ h => by obtain ⟨_, _, _, h, _⟩ := h; cases h) (lN rfl rfl ?h52) ?_; (case h52 => (omega))
    show AI _ _ _ _ _ _ #[true, true, true, true, true, true, true, true, false, true, true, true, true, true, false, false] _;refine aX (i := 8) (by kernel_rfl) rfl rfl ?_
    refine cf rfl (jJ (m := n) (ps := #[3]) (t0 := 32) Tryz.func131 ⟨by kernel_rfl, by kernel_rfl, by kernel_rfl, by kernel_rfl⟩ ac rfl ?h55 ?h56) ?_; (case h55 => (omega)); (case h56 => (first | omega | (simp; omega)))
    rintro _ _ ⟨t13, rfl, rfl⟩;show AI _ _ _ _ _ _ #[true, true, true, true, true, true, true, true, true, true, true, true, true, true, false, false] _
    refine aM (i := 14) rfl rfl (by kernel_rfl) (by kernel_rfl) (by kernel_rfl) (fun _ _ h => by obtain ⟨_, _, _, h, _⟩ := h; cases h) (lu (E := Enc.byte) ac (by kernel_rfl) rfl rfl rfl ?h57) ?_; (case h57 => (first | rfl | omega))
    show AI _ _ _ _ _ _ #[true, true, true, true, true, true, true, true, true, true, true, true, true, true, true, false] _
    first | (refine aM (i := 15) rfl rfl (by kernel_rfl) (by kernel_rfl) (by kernel_rfl) (fun _ _ h => by obtain ⟨_, _, _, h, _⟩ := h; cases h) (aB (av := slE _ _ _) rfl) ?_) | (refine aM (i := 15) rfl rfl (by kernel_rfl) (by kernel_rfl) (by kernel_rfl) (fun _ _ h => by obtain ⟨_, _, _, h, _⟩ := h; cases h) (aB (av := .v _) rfl) ?_) | (refine aM (i := 15) rfl rfl (by kernel_rfl) (by kernel_rfl) (by kernel_rfl) (fun _ _ h => by obtain ⟨_, _, _, h, _⟩ := h; cases h) (aB (av := .vw _ _ _ _) rfl) ?_)
    show AI _ _ _ _ _ _ #[true, true, true, true, true, true, true, true, true, true, true, true, true, true, true, true] _;refine bE rfl <| af <| aa ?_;show AR _ _ _ _ _ [0, 1, 2, 3, 4, 5] _;refine aq rfl rfl ?_
    first | (refine au rfl rfl (aj (av := slE _ _ _) rfl) ?_) | (refine au rfl rfl (aj (av := .v _) rfl) ?_) | (refine au rfl rfl (aj (av := .vw _ _ _ _) rfl) ?_)
    refine aq rfl rfl ?_
    first | (refine au rfl rfl (aj (av := .pt _ _) rfl) ?_) | (refine au rfl rfl (aj (av := .cp _) rfl) ?_) | (refine au rfl rfl (aj (av := .v _) rfl) ?_)
    refine aq rfl rfl ?_
    first | (refine au rfl rfl (ar rfl) ?_) | (refine au rfl rfl (aR rfl) ?_) | (refine au rfl rfl (bc rfl) ?_)
    refine aq rfl rfl <| au rfl rfl (al (n := 1) (by kernel_rfl) rfl) <| aq rfl rfl ?_
    first | refine au rfl rfl (aJ ac rfl rfl) ?_ | refine cq rfl rfl (am (i := 0) ac rfl rfl rfl rfl) ?_ | refine cq rfl rfl (am (i := 1) ac rfl rfl rfl rfl) ?_
    refine aq rfl rfl ?_
    first | (refine cq rfl rfl (OpS.opR (kF (E := Enc.byte) ac (by kernel_rfl) rfl rfl) _) ?_) | (refine cq rfl rfl (fc (E := Enc.byte) (i := 0) ac (by kernel_rfl) rfl rfl rfl ?h60 ?h61) ?_; (case h60 => (first | omega | (simp; omega))); (case h61 => (first | omega | (simp; omega)))) | (refine cq rfl rfl (fc (E := Enc.byte) (i := 1) ac (by kernel_rfl) rfl rfl rfl ?h62 ?h63) ?_; (case h62 => (first | omega | (simp; omega))); (case h63 => (first | omega | (simp; omega)))) | (refine cq rfl rfl (fO (i := 0) ac (by kernel_rfl) rfl rfl rfl ?h64 ?h65) ?_; (case h64 => (first | omega | (simp; omega))); (case h65 => (first | omega | (simp; omega)))) | (refine cq rfl rfl (fO (i := 1) ac (by kernel_rfl) rfl rfl rfl ?h66 ?h67) ?_; (case h66 => (first | omega | (simp; omega))); (case h67 => (first | omega | (simp; omega))))
    refine ag <| aa ?_;show AR _ _ _ _ _ [0, 1, 2, 3, 4] _;refine aq rfl rfl ?_
    first | (refine au rfl rfl (aj (av := .pt _ _) rfl) ?_) | (refine au rfl rfl (aj (av := .cp _) rfl) ?_) | (refine au rfl rfl (aj (av := .v _) rfl) ?_)
    refine aq rfl rfl ?_
    first | (refine au rfl rfl (aj (av := slE _ _ _) rfl) ?_) | (refine au rfl rfl (aj (av := .v _) rfl) ?_) | (refine au rfl rfl (aj (av := .vw _ _ _ _) rfl) ?_)
    refine aq rfl rfl ?_
    first | (refine au rfl rfl (ar rfl) ?_) | (refine au rfl rfl (aR rfl) ?_) | (refine au rfl rfl (bc rfl) ?_)
    refine aq rfl rfl <| au rfl rfl (al (n := 1) (by kernel_rfl) rfl) <| aq rfl rfl ?_
    first | (refine bR rfl (aw (i := 0) (c := slE _ _ _) (by kernel_rfl) rfl rfl rfl rfl ?h69) ?_; (case h69 => (simp))) | (refine bR rfl (aw (i := 0) (c := .v _) (by kernel_rfl) rfl rfl rfl rfl ?h70) ?_; (case h70 => (simp))) | (refine bR rfl (aw (i := 0) (c := .vw _ _ _ _) (by kernel_rfl) rfl rfl rfl rfl ?h71) ?_; (case h71 => (simp))) | (refine bR rfl (aw (i := 1) (c := slE _ _ _) (by kernel_rfl) rfl rfl rfl rfl ?h72) ?_; (case h72 => (simp))) | (refine bR rfl (aw (i := 1) (c := .v _) (by kernel_rfl) rfl rfl rfl rfl ?h73) ?_; (case h73 => (simp))) | (refine bR rfl (aw (i := 1) (c := .vw _ _ _ _) (by kernel_rfl) rfl rfl rfl rfl ?h74) ?_; (case h74 => (simp)))
    refine ag ?_
    -- END 3 (end)
    show cK _ _ _ _ .normal _;exact ⟨rfl, _, _, eY rfl, bp _, rfl, t13, rfl⟩
set_option maxRecDepth 100000 in
set_option maxHeartbeats 1000000 in
theorem qq (o : Nat) (a : AV) (ha : a = .v (.pointer none) ∨ a = .pt o 0) (n : Nat) (hn : n ≤ 1000000000) (hz : n = 0) :
    ACalls Tryz.prog 144 [.pt o 0, i64 n] [.obj o [a, ah], .ty o 91] (fun e A' => e = .ret (.tup []) ∧ A' = [.obj o [.pt o 0, ah], .ty o 91]) := by
  refine ax Tryz.func144 rfl rfl ?_;show AW _ _ 25 _ _ _;refine af <| aa ?_;show AR _ _ _ _ _ [0, 1] _;refine aq rfl rfl ?_
  first | (refine au rfl rfl (aj (av := .pt _ _) rfl) ?_) | (refine au rfl rfl (aj (av := .cp _) rfl) ?_) | (refine au rfl rfl (aj (av := .v _) rfl) ?_)
  refine aq rfl rfl <| dD [] rfl vk rfl (fa  o a ah ha) ?p1 ?k1 ?q1
  (case p1 => (exact bq _))
  (case q1 => (rintro c A' ⟨h, _⟩; cases h))
  rintro av A' ⟨h, rfl⟩; cases h
  refine ag <| af <| af <| aa ?_;show AR _ _ _ _ _ [0, 1] _;refine aq rfl rfl <| au rfl rfl (aj (av := .v _) rfl) <| aq rfl rfl <| au rfl rfl (bC rfl rfl) <| ag <| az rfl (fun c1 => ?_) (fun c1 => ?_)
  · have c1p := c1; try simp only [decide_eq_true_eq, decide_eq_false_iff_not, Bool.not_eq_true', Bool.not_eq_false', Bool.not_true, Bool.not_false, Bool.not_eq_eq_eq_not] at c1p
    refine aa ?_;show AR _ _ _ _ _ [0, 1] _;refine aq rfl rfl <| au rfl rfl (bw (a := .v _) ab rfl rfl) <| aq rfl rfl ?_
    exfalso; first | omega | simp_all
  · have c1p := c1; try simp only [decide_eq_true_eq, decide_eq_false_iff_not, Bool.not_eq_true', Bool.not_eq_false', Bool.not_true, Bool.not_false, Bool.not_eq_eq_eq_not] at c1p
    refine aC <| af <| bz (by kernel_rfl) ?_;show AI _ _ _ _ _ 13 (Array.replicate 13 false) _
    first | (refine aM (i := 0) rfl rfl (by kernel_rfl) (by kernel_rfl) (by kernel_rfl) (fun _ _ h => by obtain ⟨_, _, _, h, _⟩ := h; cases h) (aj (av := .pt _ _) rfl) ?_) | (refine aM (i := 0) rfl rfl (by kernel_rfl) (by kernel_rfl) (by kernel_rfl) (fun _ _ h => by obtain ⟨_, _, _, h, _⟩ := h; cases h) (aj (av := .cp _) rfl) ?_) | (refine aM (i := 0) rfl rfl (by kernel_rfl) (by kernel_rfl) (by kernel_rfl) (fun _ _ h => by obtain ⟨_, _, _, h, _⟩ := h; cases h) (aj (av := .v _) rfl) ?_)
    show AI _ _ _ _ _ _ #[true, false, false, false, false, false, false, false, false, false, false, false, false] _
    first | (refine aM (i := 1) rfl rfl (by kernel_rfl) (by kernel_rfl) (by kernel_rfl) (fun _ _ h => by obtain ⟨_, _, _, h, _⟩ := h; cases h) (ar rfl) ?_) | (refine aM (i := 1) rfl rfl (by kernel_rfl) (by kernel_rfl) (by kernel_rfl) (fun _ _ h => by obtain ⟨_, _, _, h, _⟩ := h; cases h) (aR rfl) ?_) | (refine aM (i := 1) rfl rfl (by kernel_rfl) (by kernel_rfl) (by kernel_rfl) (fun _ _ h => by obtain ⟨_, _, _, h, _⟩ := h; cases h) (bc rfl) ?_)
    show AI _ _ _ _ _ _ #[true, true, false, false, false, false, false, false, false, false, false, false, false] _;refine aM (i := 2) rfl rfl (by kernel_rfl) (by kernel_rfl) (by kernel_rfl) (fun _ _ h => by obtain ⟨_, _, _, h, _⟩ := h; cases h) (al (n := 1) (by kernel_rfl) rfl) ?_;show AI _ _ _ _ _ _ #[true, true, true, false, false, false, false, false, false, false, false, false, false] _
    first | (refine aM (i := 5) rfl rfl (by kernel_rfl) (by kernel_rfl) (by kernel_rfl) (fun _ _ h => by obtain ⟨_, _, _, h, _⟩ := h; cases h) (aj (av := .pt _ _) rfl) ?_) | (refine aM (i := 5) rfl rfl (by kernel_rfl) (by kernel_rfl) (by kernel_rfl) (fun _ _ h => by obtain ⟨_, _, _, h, _⟩ := h; cases h) (aj (av := .cp _) rfl) ?_) | (refine aM (i := 5) rfl rfl (by kernel_rfl) (by kernel_rfl) (by kernel_rfl) (fun _ _ h => by obtain ⟨_, _, _, h, _⟩ := h; cases h) (aj (av := .v _) rfl) ?_)
    show AI _ _ _ _ _ _ #[true, true, true, false, false, true, false, false, false, false, false, false, false] _
    first | (refine aM (i := 6) rfl rfl (by kernel_rfl) (by kernel_rfl) (by kernel_rfl) (fun _ _ h => by obtain ⟨_, _, _, h, _⟩ := h; cases h) (ar rfl) ?_) | (refine aM (i := 6) rfl rfl (by kernel_rfl) (by kernel_rfl) (by kernel_rfl) (fun _ _ h => by obtain ⟨_, _, _, h, _⟩ := h; cases h) (aR rfl) ?_) | (refine aM (i := 6) rfl rfl (by kernel_rfl) (by kernel_rfl) (by kernel_rfl) (fun _ _ h => by obtain ⟨_, _, _, h, _⟩ := h; cases h) (bc rfl) ?_)
    show AI _ _ _ _ _ _ #[true, true, true, false, false, true, true, false, false, false, false, false, false] _;refine aM (i := 7) rfl rfl (by kernel_rfl) (by kernel_rfl) (by kernel_rfl) (fun _ _ h => by obtain ⟨_, _, _, h, _⟩ := h; cases h) (al (n := 1) (by kernel_rfl) rfl) ?_;show AI _ _ _ _ _ _ #[true, true, true, false, false, true, true, true, false, false, false, false, false] _;refine aM (i := 11) rfl rfl (by kernel_rfl) (by kernel_rfl) (by kernel_rfl) (fun _ _ h => by obtain ⟨_, _, _, h, _⟩ := h; cases h) (aj (av := .v _) rfl) ?_;show AI _ _ _ _ _ _ #[true, true, true, false, false, true, true, true, false, false, false, true, false] _;refine dE (i := 3) (j := 8) (by kernel_rfl) rfl rfl rfl rfl ?_ ?_
    · first | refine aW rfl (am (i := 0) ac rfl rfl rfl rfl) ?_ | refine aW rfl (am (i := 1) ac rfl rfl rfl rfl) ?_
      show AI _ _ _ _ _ _ #[true, true, true, true, false, true, true, true, false, false, false, true, false] _
      first | (refine aM (i := 4) rfl rfl (by kernel_rfl) (by kernel_rfl) (by kernel_rfl) (fun _ _ h => by obtain ⟨_, _, _, h, _⟩ := h; cases h) (gp ac rfl) ?_) | (refine aM (i := 4) rfl rfl (by kernel_rfl) (by kernel_rfl) (by kernel_rfl) (fun _ _ h => by obtain ⟨_, _, _, h, _⟩ := h; cases h) (opS_cap_vw ac rfl) ?_)
      show AI _ _ _ _ _ _ #[true, true, true, true, true, true, true, true, false, false, false, true, false] _;refine aX (i := 8) (by kernel_rfl) rfl rfl ?_
      first | refine aW rfl (am (i := 0) ac rfl rfl rfl rfl) ?_ | refine aW rfl (am (i := 1) ac rfl rfl rfl rfl) ?_
      show AI _ _ _ _ _ _ #[true, true, true, true, true, true, true, true, true, false, false, true, false] _
      first | (refine aM (i := 9) rfl rfl (by kernel_rfl) (by kernel_rfl) (by kernel_rfl) (fun _ _ h => by obtain ⟨_, _, _, h, _⟩ := h; cases h) (aQ ac rfl) ?_) | (refine aM (i := 9) rfl rfl (by kernel_rfl) (by kernel_rfl) (by kernel_rfl) (fun _ _ h => by obtain ⟨_, _, _, h, _⟩ := h; cases h) (cm ac rfl) ?_)
      show AI _ _ _ _ _ _ #[true, true, true, true, true, true, true, true, true, true, false, true, false] _
      refine aM (i := 10) rfl rfl (by kernel_rfl) (by kernel_rfl) (by kernel_rfl) (fun _ _ h => by obtain ⟨_, _, _, h, _⟩ := h; cases h) (kO rfl rfl ?h2) ?_; (case h2 => (omega))
      show AI _ _ _ _ _ _ #[true, true, true, true, true, true, true, true, true, true, true, true, false] _;refine aM (i := 12) rfl rfl (by kernel_rfl) (by kernel_rfl) (by kernel_rfl) (fun _ _ h => by obtain ⟨_, _, _, h, _⟩ := h; cases h) (bC rfl rfl) ?_;show AI _ _ _ _ _ _ #[true, true, true, true, true, true, true, true, true, true, true, true, true] _;refine bE rfl <| az rfl (fun c2 => ?_) (fun c2 => ?_)
      · have c2p := c2; try simp only [decide_eq_true_eq, decide_eq_false_iff_not, Bool.not_eq_true', Bool.not_eq_false', Bool.not_true, Bool.not_false, Bool.not_eq_eq_eq_not] at c2p
        refine aa ?_;show AR _ _ _ _ _ [0, 1, 2] _;refine aq rfl rfl ?_
        first | (refine au rfl rfl (aj (av := .pt _ _) rfl) ?_) | (refine au rfl rfl (aj (av := .cp _) rfl) ?_) | (refine au rfl rfl (aj (av := .v _) rfl) ?_)
        refine aq rfl rfl <| au rfl rfl (aj (av := .v _) rfl) <| aq rfl rfl <| dD [.ty o 91] rfl en193 rfl (iy  o (.pt o 0) n hn) ?p2 ?k2 ?q2
        (case p2 => (exact bq _))
        (case q2 => (rintro c A' ⟨h, _⟩; cases h))
        rintro av A' ⟨h, t24, rfl⟩; cases h
        refine ag ?_
        -- END 1 (end)
        show cK _ _ _ _ .normal _
        first | exact ⟨rfl, _, _, eY rfl, bp _, rfl, rfl⟩ | (exfalso; omega)
      · have c2p := c2; try simp only [decide_eq_true_eq, decide_eq_false_iff_not, Bool.not_eq_true', Bool.not_eq_false', Bool.not_true, Bool.not_false, Bool.not_eq_eq_eq_not] at c2p
        refine aC ?_
        -- END 2 (end)
        show cK _ _ _ _ .normal _
        first | exact ⟨rfl, _, _, eY rfl, bp _, rfl, rfl⟩ | (exfalso; omega)
    · first | refine aW rfl (am (i := 0) ac rfl rfl rfl rfl) ?_ | refine aW rfl (am (i := 1) ac rfl rfl rfl rfl) ?_
      show AI _ _ _ _ _ _ #[true, true, true, false, false, true, true, true, true, false, false, true, false] _
      first | (refine aM (i := 9) rfl rfl (by kernel_rfl) (by kernel_rfl) (by kernel_rfl) (fun _ _ h => by obtain ⟨_, _, _, h, _⟩ := h; cases h) (aQ ac rfl) ?_) | (refine aM (i := 9) rfl rfl (by kernel_rfl) (by kernel_rfl) (by kernel_rfl) (fun _ _ h => by obtain ⟨_, _, _, h, _⟩ := h; cases h) (cm ac rfl) ?_)
      show AI _ _ _ _ _ _ #[true, true, true, false, false, true, true, true, true, true, false, true, false] _;refine aX (i := 3) (by kernel_rfl) rfl rfl ?_
      first | refine aW rfl (am (i := 0) ac rfl rfl rfl rfl) ?_ | refine aW rfl (am (i := 1) ac rfl rfl rfl rfl) ?_
      show AI _ _ _ _ _ _ #[true, true, true, true, false, true, true, true, true, true, false, true, false] _
      first | (refine aM (i := 4) rfl rfl (by kernel_rfl) (by kernel_rfl) (by kernel_rfl) (fun _ _ h => by obtain ⟨_, _, _, h, _⟩ := h; cases h) (gp ac rfl) ?_) | (refine aM (i := 4) rfl rfl (by kernel_rfl) (by kernel_rfl) (by kernel_rfl) (fun _ _ h => by obtain ⟨_, _, _, h, _⟩ := h; cases h) (opS_cap_vw ac rfl) ?_)
      show AI _ _ _ _ _ _ #[true, true, true, true, true, true, true, true, true, true, false, true, false] _
      refine aM (i := 10) rfl rfl (by kernel_rfl) (by kernel_rfl) (by kernel_rfl) (fun _ _ h => by obtain ⟨_, _, _, h, _⟩ := h; cases h) (kO rfl rfl ?h4) ?_; (case h4 => (omega))
      show AI _ _ _ _ _ _ #[true, true, true, true, true, true, true, true, true, true, true, true, false] _;refine aM (i := 12) rfl rfl (by kernel_rfl) (by kernel_rfl) (by kernel_rfl) (fun _ _ h => by obtain ⟨_, _, _, h, _⟩ := h; cases h) (bC rfl rfl) ?_;show AI _ _ _ _ _ _ #[true, true, true, true, true, true, true, true, true, true, true, true, true] _;refine bE rfl <| az rfl (fun c3 => ?_) (fun c3 => ?_)
      · have c3p := c3; try simp only [decide_eq_true_eq, decide_eq_false_iff_not, Bool.not_eq_true', Bool.not_eq_false', Bool.not_true, Bool.not_false, Bool.not_eq_eq_eq_not] at c3p
        refine aa ?_;show AR _ _ _ _ _ [0, 1, 2] _;refine aq rfl rfl ?_
        first | (refine au rfl rfl (aj (av := .pt _ _) rfl) ?_) | (refine au rfl rfl (aj (av := .cp _) rfl) ?_) | (refine au rfl rfl (aj (av := .v _) rfl) ?_)
        refine aq rfl rfl <| au rfl rfl (aj (av := .v _) rfl) <| aq rfl rfl <| dD [.ty o 91] rfl en193 rfl (iy  o (.pt o 0) n hn) ?p3 ?k3 ?q3
        (case p3 => (exact bq _))
        (case q3 => (rintro c A' ⟨h, _⟩; cases h))
        rintro av A' ⟨h, t24, rfl⟩; cases h
        refine ag ?_
        -- END 3 (end)
        show cK _ _ _ _ .normal _
        first | exact ⟨rfl, _, _, eY rfl, bp _, rfl, rfl⟩ | (exfalso; omega)
      · have c3p := c3; try simp only [decide_eq_true_eq, decide_eq_false_iff_not, Bool.not_eq_true', Bool.not_eq_false', Bool.not_true, Bool.not_false, Bool.not_eq_eq_eq_not] at c3p
        refine aC ?_
        -- END 4 (end)
        show cK _ _ _ _ .normal _
        first | exact ⟨rfl, _, _, eY rfl, bp _, rfl, rfl⟩ | (exfalso; omega)
set_option maxRecDepth 100000 in
set_option maxHeartbeats 1000000 in
theorem qr (o : Nat) (a : AV) (ha : a = .v (.pointer none) ∨ a = .pt o 0) (n : Nat) (hn : n ≤ 1000000000) (hz : 0 < n) :
    ACalls Tryz.prog 144 [.pt o 0, i64 n] [.obj o [a, ah], .ty o 91] (fun e A' => e = .ret (.tup []) ∧ ∃ t', A' = [.tok t' 5, .obj o [.pt o 0, slE Enc.byte [] (some t')], .ty o 91]) := by
  refine ax Tryz.func144 rfl rfl ?_;show AW _ _ 25 _ _ _;refine af <| aa ?_;show AR _ _ _ _ _ [0, 1] _;refine aq rfl rfl ?_
  first | (refine au rfl rfl (aj (av := .pt _ _) rfl) ?_) | (refine au rfl rfl (aj (av := .cp _) rfl) ?_) | (refine au rfl rfl (aj (av := .v _) rfl) ?_)
  refine aq rfl rfl <| dD [] rfl vk rfl (fa  o a ah ha) ?p1 ?k1 ?q1
  (case p1 => (exact bq _))
  (case q1 => (rintro c A' ⟨h, _⟩; cases h))
  rintro av A' ⟨h, rfl⟩; cases h
  refine ag <| af <| af <| aa ?_;show AR _ _ _ _ _ [0, 1] _;refine aq rfl rfl <| au rfl rfl (aj (av := .v _) rfl) <| aq rfl rfl <| au rfl rfl (bC rfl rfl) <| ag <| az rfl (fun c1 => ?_) (fun c1 => ?_)
  · have c1p := c1; try simp only [decide_eq_true_eq, decide_eq_false_iff_not, Bool.not_eq_true', Bool.not_eq_false', Bool.not_true, Bool.not_false, Bool.not_eq_eq_eq_not] at c1p
    refine aa ?_;show AR _ _ _ _ _ [0, 1] _;refine aq rfl rfl <| au rfl rfl (bw (a := .v _) ab rfl rfl) <| aq rfl rfl ?_
    exfalso; first | omega | simp_all
  · have c1p := c1; try simp only [decide_eq_true_eq, decide_eq_false_iff_not, Bool.not_eq_true', Bool.not_eq_false', Bool.not_true, Bool.not_false, Bool.not_eq_eq_eq_not] at c1p
    refine aC <| af <| bz (by kernel_rfl) ?_;show AI _ _ _ _ _ 13 (Array.replicate 13 false) _
    first | (refine aM (i := 0) rfl rfl (by kernel_rfl) (by kernel_rfl) (by kernel_rfl) (fun _ _ h => by obtain ⟨_, _, _, h, _⟩ := h; cases h) (aj (av := .pt _ _) rfl) ?_) | (refine aM (i := 0) rfl rfl (by kernel_rfl) (by kernel_rfl) (by kernel_rfl) (fun _ _ h => by obtain ⟨_, _, _, h, _⟩ := h; cases h) (aj (av := .cp _) rfl) ?_) | (refine aM (i := 0) rfl rfl (by kernel_rfl) (by kernel_rfl) (by kernel_rfl) (fun _ _ h => by obtain ⟨_, _, _, h, _⟩ := h; cases h) (aj (av := .v _) rfl) ?_)
    show AI _ _ _ _ _ _ #[true, false, false, false, false, false, false, false, false, false, false, false, false] _
    first | (refine aM (i := 1) rfl rfl (by kernel_rfl) (by kernel_rfl) (by kernel_rfl) (fun _ _ h => by obtain ⟨_, _, _, h, _⟩ := h; cases h) (ar rfl) ?_) | (refine aM (i := 1) rfl rfl (by kernel_rfl) (by kernel_rfl) (by kernel_rfl) (fun _ _ h => by obtain ⟨_, _, _, h, _⟩ := h; cases h) (aR rfl) ?_) | (refine aM (i := 1) rfl rfl (by kernel_rfl) (by kernel_rfl) (by kernel_rfl) (fun _ _ h => by obtain ⟨_, _, _, h, _⟩ := h; cases h) (bc rfl) ?_)
    show AI _ _ _ _ _ _ #[true, true, false, false, false, false, false, false, false, false, false, false, false] _;refine aM (i := 2) rfl rfl (by kernel_rfl) (by kernel_rfl) (by kernel_rfl) (fun _ _ h => by obtain ⟨_, _, _, h, _⟩ := h; cases h) (al (n := 1) (by kernel_rfl) rfl) ?_;show AI _ _ _ _ _ _ #[true, true, true, false, false, false, false, false, false, false, false, false, false] _
    first | (refine aM (i := 5) rfl rfl (by kernel_rfl) (by kernel_rfl) (by kernel_rfl) (fun _ _ h => by obtain ⟨_, _, _, h, _⟩ := h; cases h) (aj (av := .pt _ _) rfl) ?_) | (refine aM (i := 5) rfl rfl (by kernel_rfl) (by kernel_rfl) (by kernel_rfl) (fun _ _ h => by obtain ⟨_, _, _, h, _⟩ := h; cases h) (aj (av := .cp _) rfl) ?_) | (refine aM (i := 5) rfl rfl (by kernel_rfl) (by kernel_rfl) (by kernel_rfl) (fun _ _ h => by obtain ⟨_, _, _, h, _⟩ := h; cases h) (aj (av := .v _) rfl) ?_)
    show AI _ _ _ _ _ _ #[true, true, true, false, false, true, false, false, false, false, false, false, false] _
    first | (refine aM (i := 6) rfl rfl (by kernel_rfl) (by kernel_rfl) (by kernel_rfl) (fun _ _ h => by obtain ⟨_, _, _, h, _⟩ := h; cases h) (ar rfl) ?_) | (refine aM (i := 6) rfl rfl (by kernel_rfl) (by kernel_rfl) (by kernel_rfl) (fun _ _ h => by obtain ⟨_, _, _, h, _⟩ := h; cases h) (aR rfl) ?_) | (refine aM (i := 6) rfl rfl (by kernel_rfl) (by kernel_rfl) (by kernel_rfl) (fun _ _ h => by obtain ⟨_, _, _, h, _⟩ := h; cases h) (bc rfl) ?_)
    show AI _ _ _ _ _ _ #[true, true, true, false, false, true, true, false, false, false, false, false, false] _;refine aM (i := 7) rfl rfl (by kernel_rfl) (by kernel_rfl) (by kernel_rfl) (fun _ _ h => by obtain ⟨_, _, _, h, _⟩ := h; cases h) (al (n := 1) (by kernel_rfl) rfl) ?_;show AI _ _ _ _ _ _ #[true, true, true, false, false, true, true, true, false, false, false, false, false] _;refine aM (i := 11) rfl rfl (by kernel_rfl) (by kernel_rfl) (by kernel_rfl) (fun _ _ h => by obtain ⟨_, _, _, h, _⟩ := h; cases h) (aj (av := .v _) rfl) ?_;show AI _ _ _ _ _ _ #[true, true, true, false, false, true, true, true, false, false, false, true, false] _;refine dE (i := 3) (j := 8) (by kernel_rfl) rfl rfl rfl rfl ?_ ?_
    · first | refine aW rfl (am (i := 0) ac rfl rfl rfl rfl) ?_ | refine aW rfl (am (i := 1) ac rfl rfl rfl rfl) ?_
      show AI _ _ _ _ _ _ #[true, true, true, true, false, true, true, true, false, false, false, true, false] _
      first | (refine aM (i := 4) rfl rfl (by kernel_rfl) (by kernel_rfl) (by kernel_rfl) (fun _ _ h => by obtain ⟨_, _, _, h, _⟩ := h; cases h) (gp ac rfl) ?_) | (refine aM (i := 4) rfl rfl (by kernel_rfl) (by kernel_rfl) (by kernel_rfl) (fun _ _ h => by obtain ⟨_, _, _, h, _⟩ := h; cases h) (opS_cap_vw ac rfl) ?_)
      show AI _ _ _ _ _ _ #[true, true, true, true, true, true, true, true, false, false, false, true, false] _;refine aX (i := 8) (by kernel_rfl) rfl rfl ?_
      first | refine aW rfl (am (i := 0) ac rfl rfl rfl rfl) ?_ | refine aW rfl (am (i := 1) ac rfl rfl rfl rfl) ?_
      show AI _ _ _ _ _ _ #[true, true, true, true, true, true, true, true, true, false, false, true, false] _
      first | (refine aM (i := 9) rfl rfl (by kernel_rfl) (by kernel_rfl) (by kernel_rfl) (fun _ _ h => by obtain ⟨_, _, _, h, _⟩ := h; cases h) (aQ ac rfl) ?_) | (refine aM (i := 9) rfl rfl (by kernel_rfl) (by kernel_rfl) (by kernel_rfl) (fun _ _ h => by obtain ⟨_, _, _, h, _⟩ := h; cases h) (cm ac rfl) ?_)
      show AI _ _ _ _ _ _ #[true, true, true, true, true, true, true, true, true, true, false, true, false] _
      refine aM (i := 10) rfl rfl (by kernel_rfl) (by kernel_rfl) (by kernel_rfl) (fun _ _ h => by obtain ⟨_, _, _, h, _⟩ := h; cases h) (kO rfl rfl ?h2) ?_; (case h2 => (omega))
      show AI _ _ _ _ _ _ #[true, true, true, true, true, true, true, true, true, true, true, true, false] _;refine aM (i := 12) rfl rfl (by kernel_rfl) (by kernel_rfl) (by kernel_rfl) (fun _ _ h => by obtain ⟨_, _, _, h, _⟩ := h; cases h) (bC rfl rfl) ?_;show AI _ _ _ _ _ _ #[true, true, true, true, true, true, true, true, true, true, true, true, true] _;refine bE rfl <| az rfl (fun c2 => ?_) (fun c2 => ?_)
      · have c2p := c2; try simp only [decide_eq_true_eq, decide_eq_false_iff_not, Bool.not_eq_true', Bool.not_eq_false', Bool.not_true, Bool.not_false, Bool.not_eq_eq_eq_not] at c2p
        refine aa ?_;show AR _ _ _ _ _ [0, 1, 2] _;refine aq rfl rfl ?_
        first | (refine au rfl rfl (aj (av := .pt _ _) rfl) ?_) | (refine au rfl rfl (aj (av := .cp _) rfl) ?_) | (refine au rfl rfl (aj (av := .v _) rfl) ?_)
        refine aq rfl rfl <| au rfl rfl (aj (av := .v _) rfl) <| aq rfl rfl <| dD [.ty o 91] rfl en193 rfl (iy  o (.pt o 0) n hn) ?p2 ?k2 ?q2
        (case p2 => (exact bq _))
        (case q2 => (rintro c A' ⟨h, _⟩; cases h))
        rintro av A' ⟨h, t24, rfl⟩; cases h
        refine ag ?_
        -- END 1 (end)
        show cK _ _ _ _ .normal _
        first | exact ⟨rfl, _, _, eY rfl, bp _, rfl, t24, rfl⟩ | (exfalso; omega)
      · have c2p := c2; try simp only [decide_eq_true_eq, decide_eq_false_iff_not, Bool.not_eq_true', Bool.not_eq_false', Bool.not_true, Bool.not_false, Bool.not_eq_eq_eq_not] at c2p
        refine aC ?_
        -- END 2 (end)
        show cK _ _ _ _ .normal _
        first | exact ⟨rfl, _, _, eY rfl, bp _, rfl, t24, rfl⟩ | (exfalso; omega)
    · first | refine aW rfl (am (i := 0) ac rfl rfl rfl rfl) ?_ | refine aW rfl (am (i := 1) ac rfl rfl rfl rfl) ?_
      show AI _ _ _ _ _ _ #[true, true, true, false, false, true, true, true, true, false, false, true, false] _
      first | (refine aM (i := 9) rfl rfl (by kernel_rfl) (by kernel_rfl) (by kernel_rfl) (fun _ _ h => by obtain ⟨_, _, _, h, _⟩ := h; cases h) (aQ ac rfl) ?_) | (refine aM (i := 9) rfl rfl (by kernel_rfl) (by kernel_rfl) (by kernel_rfl) (fun _ _ h => by obtain ⟨_, _, _, h, _⟩ := h; cases h) (cm ac rfl) ?_)
      show AI _ _ _ _ _ _ #[true, true, true, false, false, true, true, true, true, true, false, true, false] _;refine aX (i := 3) (by kernel_rfl) rfl rfl ?_
      first | refine aW rfl (am (i := 0) ac rfl rfl rfl rfl) ?_ | refine aW rfl (am (i := 1) ac rfl rfl rfl rfl) ?_
      show AI _ _ _ _ _ _ #[true, true, true, true, false, true, true, true, true, true, false, true, false] _
      first | (refine aM (i := 4) rfl rfl (by kernel_rfl) (by kernel_rfl) (by kernel_rfl) (fun _ _ h => by obtain ⟨_, _, _, h, _⟩ := h; cases h) (gp ac rfl) ?_) | (refine aM (i := 4) rfl rfl (by kernel_rfl) (by kernel_rfl) (by kernel_rfl) (fun _ _ h => by obtain ⟨_, _, _, h, _⟩ := h; cases h) (opS_cap_vw ac rfl) ?_)
      show AI _ _ _ _ _ _ #[true, true, true, true, true, true, true, true, true, true, false, true, false] _
      refine aM (i := 10) rfl rfl (by kernel_rfl) (by kernel_rfl) (by kernel_rfl) (fun _ _ h => by obtain ⟨_, _, _, h, _⟩ := h; cases h) (kO rfl rfl ?h4) ?_; (case h4 => (omega))
      show AI _ _ _ _ _ _ #[true, true, true, true, true, true, true, true, true, true, true, true, false] _;refine aM (i := 12) rfl rfl (by kernel_rfl) (by kernel_rfl) (by kernel_rfl) (fun _ _ h => by obtain ⟨_, _, _, h, _⟩ := h; cases h) (bC rfl rfl) ?_;show AI _ _ _ _ _ _ #[true, true, true, true, true, true, true, true, true, true, true, true, true] _;refine bE rfl <| az rfl (fun c3 => ?_) (fun c3 => ?_)
      · have c3p := c3; try simp only [decide_eq_true_eq, decide_eq_false_iff_not, Bool.not_eq_true', Bool.not_eq_false', Bool.not_true, Bool.not_false, Bool.not_eq_eq_eq_not] at c3p
        refine aa ?_;show AR _ _ _ _ _ [0, 1, 2] _;refine aq rfl rfl ?_
        first | (refine au rfl rfl (aj (av := .pt _ _) rfl) ?_) | (refine au rfl rfl (aj (av := .cp _) rfl) ?_) | (refine au rfl rfl (aj (av := .v _) rfl) ?_)
        refine aq rfl rfl <| au rfl rfl (aj (av := .v _) rfl) <| aq rfl rfl <| dD [.ty o 91] rfl en193 rfl (iy  o (.pt o 0) n hn) ?p3 ?k3 ?q3
        (case p3 => (exact bq _))
        (case q3 => (rintro c A' ⟨h, _⟩; cases h))
        rintro av A' ⟨h, t24, rfl⟩; cases h
        refine ag ?_
        -- END 3 (end)
        show cK _ _ _ _ .normal _
        first | exact ⟨rfl, _, _, eY rfl, bp _, rfl, t24, rfl⟩ | (exfalso; omega)
      · have c3p := c3; try simp only [decide_eq_true_eq, decide_eq_false_iff_not, Bool.not_eq_true', Bool.not_eq_false', Bool.not_true, Bool.not_false, Bool.not_eq_eq_eq_not] at c3p
        refine aC ?_
        -- END 4 (end)
        show cK _ _ _ _ .normal _
        first | exact ⟨rfl, _, _, eY rfl, bp _, rfl, t24, rfl⟩ | (exfalso; omega)
theorem rM (o : Nat) (a : AV) (ha : a = .v (.pointer none) ∨ a = .pt o 0) (n : Nat) (hn : n ≤ 1000000000) : ACalls Tryz.prog 144 [.pt o 0, i64 n] [.obj o [a, ah], .ty o 91] (fun e A' => e = .ret (.tup []) ∧ ∃ t', A' = [.tok t' 5, .obj o [.pt o 0, slE Enc.byte [] (some t')], .ty o 91]) := by
  by_cases hz : n = 0
  · refine (qq  o a ha n hn hz).conv fun ae A' h F I w hI => ?_
    obtain ⟨h1, rfl⟩ := h;obtain ⟨I', t, E, hI'⟩ := pM hI 1 1 5 rfl;exact ⟨I', _, E, hI', h1, t, rfl⟩
  · exact qr  o a ha n hn (by omega)
end Go.Proofs.YtjegcifofddgbaaGreatDoor
namespace Go.Proofs.YtjegcifofddgbaaGreatDoor
open Go.RowKit Go.Av
abbrev _root_.Go.Av.ao := @Tryz.underlying43
set_option maxRecDepth 100000 in
set_option maxHeartbeats 1000000 in
theorem li (l : List (List UInt8)) (sep : List UInt8) (tl : Option Nat) (hb : sep.length * l.length + Str.total l ≤ 1000000000) (hl : l.length ≤ 1000000000) :
    ACalls Tryz.prog 95 [slE Enc.str l tl, S sep] [] (Ret (S (Str.join sep l)) []) := by
  refine ax Tryz.func95 rfl rfl ?_;show AW _ _ 75 _ _ _;refine af <| aa ?_;show AR _ _ _ _ _ [0] _;refine aq rfl rfl <| au rfl rfl (aB (av := .v _) rfl) <| ag <| af <| af <| aa ?_;show AR _ _ _ _ _ [0, 1] _;refine aq rfl rfl ?_
  first | (refine au rfl rfl (aj (av := slE _ _ _) rfl) ?_) | (refine au rfl rfl (aj (av := .v _) rfl) ?_) | (refine au rfl rfl (aj (av := .vw _ _ _ _) rfl) ?_)
  refine aq rfl rfl ?_
  first | (refine au rfl rfl (aQ ao rfl) ?_) | (refine au rfl rfl (cm ao rfl) ?_)
  refine ag <| aO <| af <| aa ?_;show AR _ _ _ _ _ [0, 1] _;refine aq rfl rfl <| au rfl rfl (cJ rfl rfl) <| aq rfl rfl <| au rfl rfl (aB (av := .v _) rfl) <| ag <| az rfl (fun c1 => ?_) (fun c1 => ?_)
  · have c1p := c1; try simp only [decide_eq_true_eq, decide_eq_false_iff_not, Bool.not_eq_true', Bool.not_eq_false', Bool.not_true, Bool.not_false, Bool.not_eq_eq_eq_not] at c1p
    refine af <| aa ?_;show AR _ _ _ _ _ [0] _;refine aq rfl rfl <| au rfl rfl (aB (av := .v _) rfl) <| ag <| aL ?_
    -- END 1 (ret)
    show cK _ _ _ _ .ret _
    have h0 : l = [] := List.length_eq_zero_iff.1 (by omega)
    subst h0
    (refine ⟨rfl, _, _, aH rfl ?_, ?_, ⟨rfl, rfl⟩⟩; all_goals first | exact bp _ | exact bX _ | ((repeat (first | exact bp _ | exact bX _ | refine df _ ?_ | refine de _ ?_)); done) | exact Wv.refl _ | exact Wv.tok _ _ _ | exact Wv.nil _)
  · have c1p := c1; try simp only [decide_eq_true_eq, decide_eq_false_iff_not, Bool.not_eq_true', Bool.not_eq_false', Bool.not_true, Bool.not_false, Bool.not_eq_eq_eq_not] at c1p
    refine af <| aa ?_;show AR _ _ _ _ _ [0, 1] _;refine aq rfl rfl <| au rfl rfl (cJ rfl rfl) <| aq rfl rfl <| au rfl rfl (aB (av := .v _) rfl) <| ag <| az rfl (fun c2 => ?_) (fun c2 => ?_)
    · have c2p := c2; try simp only [decide_eq_true_eq, decide_eq_false_iff_not, Bool.not_eq_true', Bool.not_eq_false', Bool.not_true, Bool.not_false, Bool.not_eq_eq_eq_not] at c2p
      refine af <| aa ?_;show AR _ _ _ _ _ [0, 1, 2, 3] _;refine aq rfl rfl ?_
      first | (refine au rfl rfl (aj (av := slE _ _ _) rfl) ?_) | (refine au rfl rfl (aj (av := .v _) rfl) ?_) | (refine au rfl rfl (aj (av := .vw _ _ _ _) rfl) ?_)
      refine aq rfl rfl <| au rfl rfl (fN (m := 0) ao (by kernel_rfl) rfl rfl ?h1 ?h2) ?_
      (case h1 => (omega))
      (case h2 => (omega))
      refine aq rfl rfl ?_
      first | refine au rfl rfl (aJ ab rfl rfl) ?_ | refine cq rfl rfl (am (i := 0) ab rfl rfl rfl rfl) ?_ | refine cq rfl rfl (am (i := 1) ab rfl rfl rfl rfl) ?_ | refine cq rfl rfl (am (i := 2) ab rfl rfl rfl rfl) ?_ | refine cq rfl rfl (am (i := 3) ab rfl rfl rfl rfl) ?_
      refine aq rfl rfl <| au rfl rfl (aB (av := .v _) rfl) <| ag <| aL ?_
      -- END 2 (ret)
      show cK _ _ _ _ .ret _
      rw [Str.join_one sep l (by omega) (by omega)]
      (refine ⟨rfl, _, _, aH rfl ?_, ?_, ⟨rfl, rfl⟩⟩; all_goals first | exact bp _ | exact bX _ | ((repeat (first | exact bp _ | exact bX _ | refine df _ ?_ | refine de _ ?_)); done) | exact Wv.refl _ | exact Wv.tok _ _ _ | exact Wv.nil _)
    · have c2p := c2; try simp only [decide_eq_true_eq, decide_eq_false_iff_not, Bool.not_eq_true', Bool.not_eq_false', Bool.not_true, Bool.not_false, Bool.not_eq_eq_eq_not] at c2p
      have hl2 : 2 ≤ l.length := by omega
      have hm := Str.mul_bounds sep.length l.length 1000000000 (by omega) (by omega)
      refine aC <| af <| aa ?_;show AR _ _ _ _ _ [0] _;refine aq rfl rfl <| au rfl rfl (aB (av := .v _) rfl) <| ag <| bk (X := Nat) (fun n0 => ⟨[(0, slE Enc.str l tl), (1, S sep), (5, i64 n0)], [], []⟩) (fun n0 => n0 ≤ sep.length * l.length) ?_ ?_
      · refine af <| aa ?_;show AR _ _ _ _ _ [0, 1, 2] _;refine aq rfl rfl <| au rfl rfl (aj (av := .v _) rfl) <| aq rfl rfl <| au rfl rfl (aU ab rfl) <| aq rfl rfl <| au rfl rfl (cS rfl rfl) <| ag <| az rfl (fun c3 => ?_) (fun c3 => ?_)
        · have c3p := c3; try simp only [decide_eq_true_eq, decide_eq_false_iff_not, Bool.not_eq_true', Bool.not_eq_false', Bool.not_true, Bool.not_false, Bool.not_eq_eq_eq_not] at c3p
          refine af <| af <| aa ?_;show AR _ _ _ _ _ [0, 1, 2, 3, 4, 5, 6] _;refine aq rfl rfl <| au rfl rfl (aj (av := .v _) rfl) <| aq rfl rfl <| au rfl rfl (aU ab rfl) <| aq rfl rfl ?_
          first | (refine au rfl rfl (aj (av := slE _ _ _) rfl) ?_) | (refine au rfl rfl (aj (av := .v _) rfl) ?_) | (refine au rfl rfl (aj (av := .vw _ _ _ _) rfl) ?_)
          refine aq rfl rfl ?_
          first | (refine au rfl rfl (aQ ao rfl) ?_) | (refine au rfl rfl (cm ao rfl) ?_)
          refine aq rfl rfl <| au rfl rfl (kO rfl rfl ?h4) ?_
          (case h4 => (omega))
          refine aq rfl rfl <| au rfl rfl (wH rfl rfl ?h6) ?_
          (case h6 => (omega))
          refine aq rfl rfl <| au rfl rfl (dz rfl rfl) <| ag <| az rfl (fun c4 => ?_) (fun c4 => ?_)
          · have c4p := c4; try simp only [decide_eq_true_eq, decide_eq_false_iff_not, Bool.not_eq_true', Bool.not_eq_false', Bool.not_true, Bool.not_false, Bool.not_eq_eq_eq_not] at c4p
            exact absurd c4p (Str.quo_great _ _ 0 (by omega) (by omega) hl)
          · have c4p := c4; try simp only [decide_eq_true_eq, decide_eq_false_iff_not, Bool.not_eq_true', Bool.not_eq_false', Bool.not_true, Bool.not_false, Bool.not_eq_eq_eq_not] at c4p
            refine aC <| aa ?_;show AR _ _ _ _ _ [0, 1, 2, 3, 4, 5, 6, 7, 8] _;refine aq rfl rfl <| au rfl rfl (aj (av := .v _) rfl) <| aq rfl rfl <| au rfl rfl (aj (av := .v _) rfl) <| aq rfl rfl <| au rfl rfl (aU ab rfl) <| aq rfl rfl ?_
            first | (refine au rfl rfl (aj (av := slE _ _ _) rfl) ?_) | (refine au rfl rfl (aj (av := .v _) rfl) ?_) | (refine au rfl rfl (aj (av := .vw _ _ _ _) rfl) ?_)
            refine aq rfl rfl ?_
            first | (refine au rfl rfl (aQ ao rfl) ?_) | (refine au rfl rfl (cm ao rfl) ?_)
            refine aq rfl rfl <| au rfl rfl (kO rfl rfl ?h8) ?_
            (case h8 => (omega))
            refine aq rfl rfl <| au rfl rfl (qe rfl rfl ?h10) ?_
            (case h10 => (omega))
            refine aq rfl rfl <| au rfl rfl (lN rfl rfl ?h12) ?_
            (case h12 => (omega))
            refine aq rfl rfl <| au rfl rfl (aB (av := .v _) rfl) <| ag ?_
            -- END 3 (cut('p', 7))
            refine ⟨(sep.length * (l.length - 1)), ?_, ?_⟩
            · exact Nat.mul_le_mul_left _ (by omega)
            · refine WK.env (bD ?_ (bD ?_ (bD ?_ (Env.le.nil _)))) ?_
              all_goals first | exact bp _ | exact bX _ | ((repeat (first | exact bp _ | exact bX _ | refine df _ ?_ | refine de _ ?_)); done) | exact Wv.refl _ | exact Wv.any _ | exact Wv.tok _ _ _ | exact Wv.nil _ | (refine Wv.of_eq ?_; first | rfl | exact ii (by omega) | (exact ii (Str.mul_cast _ _ (by omega))))
        · have c3p := c3; try simp only [decide_eq_true_eq, decide_eq_false_iff_not, Bool.not_eq_true', Bool.not_eq_false', Bool.not_true, Bool.not_false, Bool.not_eq_eq_eq_not] at c3p
          refine aC ?_
          -- END 4 (cut('p', 7))
          refine ⟨0, ?_, ?_⟩
          · exact Nat.zero_le _
          · refine WK.env (bD ?_ (bD ?_ (bD ?_ (Env.le.nil _)))) ?_
            all_goals first | exact bp _ | exact bX _ | ((repeat (first | exact bp _ | exact bX _ | refine df _ ?_ | refine de _ ?_)); done) | exact Wv.refl _ | exact Wv.any _ | exact Wv.tok _ _ _ | exact Wv.nil _ | (refine Wv.of_eq ?_; first | rfl | exact ii (by omega) | (simp))
      · rintro n0 hn0
        refine af <| af <| aa ?_;show AR _ _ _ _ _ [0, 1, 2] _;refine aq rfl rfl ?_
        first | (refine au rfl rfl (aj (av := slE _ _ _) rfl) ?_) | (refine au rfl rfl (aj (av := .v _) rfl) ?_) | (refine au rfl rfl (aj (av := .vw _ _ _ _) rfl) ?_)
        refine aq rfl rfl ?_
        first | (refine au rfl rfl (aQ ao rfl) ?_) | (refine au rfl rfl (cm ao rfl) ?_)
        refine aq rfl rfl <| au rfl rfl (aj (av := .v _) rfl) <| ag <| aO <| cl (X := Nat × Nat) (fun (i, n) => ⟨[(0, slE Enc.str l tl), (1, S sep), (5, i64 n), (39, slE Enc.str l tl), (40, i64 l.length), (41, i64 i)], [], []⟩) (fun (i, n) => i ≤ l.length ∧ n + Str.total (l.drop i) ≤ 1000000000) (fun (i, n) => l.length - i) (0, n0) ?_ ?_ ?_
        · exact ⟨by omega, by simp; omega⟩
        · refine WK.env (bD ?_ (bD ?_ (bD ?_ (bD ?_ (bD ?_ (bD ?_ (Env.le.nil _))))))) ?_
          all_goals first | exact bp _ | exact bX _ | ((repeat (first | exact bp _ | exact bX _ | refine df _ ?_ | refine de _ ?_)); done) | exact Wv.refl _ | exact Wv.any _ | exact Wv.tok _ _ _ | exact Wv.nil _ | (refine Wv.of_eq ?_; first | rfl | exact ii (by omega) | (simp))
        · rintro ⟨i, n⟩ ⟨h1, h2⟩
          refine af <| aa ?_;show AR _ _ _ _ _ [0] _;refine aq rfl rfl <| au rfl rfl (bC rfl rfl) <| ag <| af <| az rfl (fun c5 => ?_) (fun c5 => ?_)
          · have c5p := c5; try simp only [decide_eq_true_eq, decide_eq_false_iff_not, Bool.not_eq_true', Bool.not_eq_false', Bool.not_true, Bool.not_false, Bool.not_eq_eq_eq_not] at c5p
            refine aC <| af <| aO <| af <| aa ?_;show AR _ _ _ _ _ [0, 1, 2] _;refine aq rfl rfl <| au rfl rfl (fN ao (by kernel_rfl) rfl rfl rfl ?h13) ?_
            (case h13 => (omega))
            refine aq rfl rfl ?_
            first | refine au rfl rfl (aJ ab rfl rfl) ?_ | refine cq rfl rfl (am (i := 0) ab rfl rfl rfl rfl) ?_ | refine cq rfl rfl (am (i := 1) ab rfl rfl rfl rfl) ?_ | refine cq rfl rfl (am (i := 2) ab rfl rfl rfl rfl) ?_ | refine cq rfl rfl (am (i := 3) ab rfl rfl rfl rfl) ?_
            refine aq rfl rfl <| au rfl rfl (aB (av := .v _) rfl) <| ag <| af <| af <| aa ?_;show AR _ _ _ _ _ [0, 1, 2, 3, 4] _;refine aq rfl rfl <| au rfl rfl (aj (av := .v _) rfl) <| aq rfl rfl <| au rfl rfl (aU ab rfl) <| aq rfl rfl <| au rfl rfl (aj (av := .v _) rfl) <| aq rfl rfl <| au rfl rfl (kO rfl rfl ?h15) ?_
            (case h15 => (omega))
            refine aq rfl rfl <| au rfl rfl (cS rfl rfl) <| ag <| az rfl (fun c6 => ?_) (fun c6 => ?_)
            · have c6p := c6; try simp only [decide_eq_true_eq, decide_eq_false_iff_not, Bool.not_eq_true', Bool.not_eq_false', Bool.not_true, Bool.not_false, Bool.not_eq_eq_eq_not] at c6p
              exfalso; have := Str.total_drop l i (by omega); omega
            · have c6p := c6; try simp only [decide_eq_true_eq, decide_eq_false_iff_not, Bool.not_eq_true', Bool.not_eq_false', Bool.not_true, Bool.not_false, Bool.not_eq_eq_eq_not] at c6p
              refine aC <| aa ?_;show AR _ _ _ _ _ [0, 1, 2, 3, 4] _;refine aq rfl rfl <| au rfl rfl (aj (av := .v _) rfl) <| aq rfl rfl <| au rfl rfl (aj (av := .v _) rfl) <| aq rfl rfl <| au rfl rfl (aU ab rfl) <| aq rfl rfl <| au rfl rfl (lN rfl rfl ?h17) ?_
              (case h17 => (omega))
              refine aq rfl rfl <| au rfl rfl (aB (av := .v _) rfl) <| ag <| aa ?_;show AR _ _ _ _ _ [0, 1] _;refine aq rfl rfl <| au rfl rfl (lN rfl rfl ?h19) ?_
              (case h19 => (omega))
              refine aq rfl rfl <| au rfl rfl (aj (av := .v _) rfl) <| ag ?_
              -- END 5 (loop1)
              refine ⟨(i + 1, n + l[i].length), ?_, ?_, ?_⟩
              · exact ⟨by omega, by have := Str.total_drop l i (by omega); omega⟩
              · (try simp only []); omega
              · refine WK.env (bD ?_ (bD ?_ (bD ?_ (bD ?_ (bD ?_ (bD ?_ (Env.le.nil _))))))) ?_
                all_goals first | exact bp _ | exact bX _ | ((repeat (first | exact bp _ | exact bX _ | refine df _ ?_ | refine de _ ?_)); done) | exact Wv.refl _ | exact Wv.any _ | exact Wv.tok _ _ _ | exact Wv.nil _ | (refine Wv.of_eq ?_; first | rfl | exact ii (by omega) | (simp))
          · have c5p := c5; try simp only [decide_eq_true_eq, decide_eq_false_iff_not, Bool.not_eq_true', Bool.not_eq_false', Bool.not_true, Bool.not_false, Bool.not_eq_eq_eq_not] at c5p
            refine bZ <| af <| aa ?_;show AR _ _ _ _ _ [0] _;refine aq rfl rfl <| AO.opx rfl rfl (jV (zs := [.pointer none, .slice none 0 0]) (by kernel_rfl)) ?_;rintro _ _ ⟨o8, rfl, rfl⟩;refine ag <| af <| aa ?_;show AR _ _ _ _ _ [0, 1] _;refine aq rfl rfl <| au rfl rfl (aj (av := .v _) rfl) <| aq rfl rfl <| dD [] rfl en144 rfl (rM o8 (.v (.pointer none)) (.inl rfl) n (by omega)) ?p1 ?k1 ?q1
            (case p1 => (exact bq _))
            (case q1 => (rintro c A' ⟨h, _⟩; cases h))
            rintro av A' ⟨h, t57, rfl⟩; cases h
            refine ag <| af <| aa ?_;show AR _ _ _ _ _ [0, 1, 2, 3] _;refine aq rfl rfl ?_
            first | (refine au rfl rfl (aj (av := slE _ _ _) rfl) ?_) | (refine au rfl rfl (aj (av := .v _) rfl) ?_) | (refine au rfl rfl (aj (av := .vw _ _ _ _) rfl) ?_)
            refine aq rfl rfl <| au rfl rfl (fN (m := 0) ao (by kernel_rfl) rfl rfl ?h20 ?h21) ?_
            (case h20 => (omega))
            (case h21 => (omega))
            refine aq rfl rfl ?_
            first | refine au rfl rfl (aJ ab rfl rfl) ?_ | refine cq rfl rfl (am (i := 0) ab rfl rfl rfl rfl) ?_ | refine cq rfl rfl (am (i := 1) ab rfl rfl rfl rfl) ?_ | refine cq rfl rfl (am (i := 2) ab rfl rfl rfl rfl) ?_ | refine cq rfl rfl (am (i := 3) ab rfl rfl rfl rfl) ?_
            refine aq rfl rfl <| dD [] rfl en62 rfl (bN o8 _ (.inr rfl) [] l[0] t57 (by have := Str.total_drop l 0 (by omega); simp at this ⊢; omega)) ?p2 ?k2 ?q2
            (case p2 => (exact List.Perm.trans (List.Perm.swap _ _ _) ((List.Perm.swap _ _ _).cons _)))
            (case q2 => (rintro c A' ⟨h, _⟩; cases h))
            rintro av A' ⟨h, t61, rfl⟩; cases h
            refine ag <| af <| af <| aa ?_;show AR _ _ _ _ _ [0, 1, 2, 3] _;refine aq rfl rfl ?_
            first | (refine au rfl rfl (aj (av := slE _ _ _) rfl) ?_) | (refine au rfl rfl (aj (av := .v _) rfl) ?_) | (refine au rfl rfl (aj (av := .vw _ _ _ _) rfl) ?_)
            refine aq rfl rfl <| au rfl rfl (kh (lo := 1) ao (by kernel_rfl) rfl rfl ?h23 ?h24) ?_
            (case h23 => (omega))
            (case h24 => (first | omega | (simp; done) | (simp; omega)))
            refine aq rfl rfl ?_
            first | (refine au rfl rfl (aQ ao rfl) ?_) | (refine au rfl rfl (cm ao rfl) ?_)
            refine aq rfl rfl <| au rfl rfl (aj (av := .v _) rfl) <| ag <| aO <| cl (X := Nat × List UInt8 × Nat) (fun (i, out, t) => ⟨[(0, slE Enc.str l tl), (1, S sep), (8, .pt o8 0), (63, slE Enc.str (l.drop 1) none), (64, i64 ((l.drop 1).length : Nat)), (65, i64 i)], [], [.obj o8 [.pt o8 0, slE Enc.byte out (some t)], .ty o8 91, .tok t 5]⟩) (fun (i, out, t) => i ≤ l.length - 1 ∧ out ++ Str.rest sep (l.drop (i + 1)) = Str.join sep l) (fun (i, out, t) => l.length - i) (0, l[0], t61) ?_ ?_ ?_
            · exact ⟨by omega, (Str.join_at sep l (by omega)).symm⟩
            · refine WK.env (bD ?_ (bD ?_ (bD ?_ (bD ?_ (bD ?_ (bD ?_ (Env.le.nil _))))))) ?_
              all_goals first | exact bp _ | exact bX _ | ((repeat (first | exact bp _ | exact bX _ | refine df _ ?_ | refine de _ ?_)); done) | exact Wv.refl _ | exact Wv.any _ | exact Wv.tok _ _ _ | exact Wv.nil _ | (refine Wv.of_eq ?_; first | rfl | exact ii (by omega) | (simp))
            · rintro ⟨i, out, t⟩ ⟨h1, h2⟩
              refine af <| aa ?_;show AR _ _ _ _ _ [0] _;refine aq rfl rfl <| au rfl rfl (bC rfl rfl) <| ag <| af <| az rfl (fun c7 => ?_) (fun c7 => ?_)
              · have c7p := c7; try simp only [decide_eq_true_eq, decide_eq_false_iff_not, Bool.not_eq_true', Bool.not_eq_false', Bool.not_true, Bool.not_false, Bool.not_eq_eq_eq_not] at c7p
                have hd : (l.drop 1).length = l.length - 1 := by simp
                have hi : i < (l.drop 1).length := by omega
                have hroom := Str.room sep out l (i + 1) (by omega) h2 hb
                refine aC <| af <| aO <| af <| aa ?_;show AR _ _ _ _ _ [0, 1, 2] _;refine aq rfl rfl <| au rfl rfl (fN ao (by kernel_rfl) rfl rfl rfl ?h25) ?_
                (case h25 => (omega))
                refine aq rfl rfl ?_
                first | refine au rfl rfl (aJ ab rfl rfl) ?_ | refine cq rfl rfl (am (i := 0) ab rfl rfl rfl rfl) ?_ | refine cq rfl rfl (am (i := 1) ab rfl rfl rfl rfl) ?_ | refine cq rfl rfl (am (i := 2) ab rfl rfl rfl rfl) ?_ | refine cq rfl rfl (am (i := 3) ab rfl rfl rfl rfl) ?_
                refine aq rfl rfl <| au rfl rfl (aB (av := .v _) rfl) <| ag <| af <| aa ?_;show AR _ _ _ _ _ [0, 1] _;refine aq rfl rfl <| au rfl rfl (aj (av := .v _) rfl) <| aq rfl rfl <| dD [] rfl en62 rfl (bN o8 _ (.inr rfl) out sep t (by omega)) ?p3 ?k3 ?q3
                (case p3 => (exact bq _))
                (case q3 => (rintro c A' ⟨h, _⟩; cases h))
                rintro av A' ⟨h, t70, rfl⟩; cases h
                refine ag <| aa ?_;show AR _ _ _ _ _ [0, 1] _;refine aq rfl rfl <| au rfl rfl (aj (av := .v _) rfl) <| aq rfl rfl <| dD [] rfl en62 rfl (bN o8 _ (.inr rfl) (out ++ sep) (l.drop 1)[i] t70 (by simp [List.getElem_drop, Nat.add_comm 1 i] at *; omega)) ?p4 ?k4 ?q4
                (case p4 => (exact bq _))
                (case q4 => (rintro c A' ⟨h, _⟩; cases h))
                rintro av A' ⟨h, t72, rfl⟩; cases h
                refine ag <| aa ?_;show AR _ _ _ _ _ [0, 1] _;refine aq rfl rfl <| au rfl rfl (lN rfl rfl ?h27) ?_
                (case h27 => (omega))
                refine aq rfl rfl <| au rfl rfl (aj (av := .v _) rfl) <| ag ?_
                -- END 6 (loop2)
                refine ⟨(i + 1, out ++ sep ++ (l.drop 1)[i], t72), ?_, ?_, ?_⟩
                · refine ⟨by omega, ?_⟩
                  rw [← h2, Str.rest_drop sep l (i + 1) (by omega)]
                  simp [List.getElem_drop, Nat.add_comm]
                · (try simp only []); omega
                · refine WK.env (bD ?_ (bD ?_ (bD ?_ (bD ?_ (bD ?_ (bD ?_ (Env.le.nil _))))))) ?_
                  all_goals first | exact bp _ | exact bX _ | ((repeat (first | exact bp _ | exact bX _ | refine df _ ?_ | refine de _ ?_)); done) | exact Wv.refl _ | exact Wv.any _ | exact Wv.tok _ _ _ | exact Wv.nil _ | (refine Wv.of_eq ?_; first | rfl | exact ii (by omega) | (simp))
              · have c7p := c7; try simp only [decide_eq_true_eq, decide_eq_false_iff_not, Bool.not_eq_true', Bool.not_eq_false', Bool.not_true, Bool.not_false, Bool.not_eq_eq_eq_not] at c7p
                have hd : (l.drop 1).length = l.length - 1 := by simp
                have hroom := Str.out_room sep out _ l h2 hb
                refine bZ <| af <| aa ?_;show AR _ _ _ _ _ [0, 1] _;refine aq rfl rfl <| dD [.ty o8 91] rfl en63 rfl (fh o8 (.pt o8 0) out t (by omega)) ?p5 ?k5 ?q5
                (case p5 => (exact (List.Perm.swap _ _ _).cons _))
                (case q5 => (rintro c A' ⟨h, _⟩; cases h))
                rintro av A' ⟨h, rfl⟩; cases h
                refine aq rfl rfl <| au rfl rfl (aB (av := .v _) rfl) <| ag <| aL ?_
                -- END 7 (ret)
                show cK _ _ _ _ .ret _
                rw [Str.rest_end sep l (i + 1) (by omega), List.append_nil] at h2
                rw [← h2]
                (refine ⟨rfl, _, _, aH rfl ?_, ?_, ⟨rfl, rfl⟩⟩; all_goals first | exact bp _ | exact bX _ | ((repeat (first | exact bp _ | exact bX _ | refine df _ ?_ | refine de _ ?_)); done) | exact Wv.refl _ | exact Wv.tok _ _ _ | exact Wv.nil _)
end Go.Proofs.YtjegcifofddgbaaGreatDoor
namespace Go.Av
open Go.RowKit
def Info.start (w : World) : Info := ⟨fun b => if b < w.heap.size then none else some 0, fun _ => none, fun _ => none⟩
theorem Inv.start (w : World) (hg : ∀ g cs, G g = some cs → Rel (Info.start w) w (gv cs) (.pointer (some ⟨g, 0, none⟩))) : Inv (Info.start w) [] w where
  holds := fun c h => by cases h
  nodup := by simp
  fresh := fun b h => by simp only [Info.start]; rw [if_neg (by omega)]
  ids := ⟨0, fun _ _ => ⟨rfl, rfl⟩⟩
  glob := hg
theorem qx {w : World} {b n : Nat} (h : b < w.heap.size) : Stab (Info.start w) b n := fun m hm => by
  simp only [Info.start] at hm
  rw [if_pos h] at hm; cases hm
theorem law_of {P : Program} {f : FuncId} {args : List AV} {vs : List Value} {w : World} (h : ACalls P f args [] (Ret (B true) [])) (hr : RelL (Info.start w) w args vs)
    (hg : ∀ g cs, G g = some cs → Rel (Info.start w) w (gv cs) (.pointer (some ⟨g, 0, none⟩))) :
    Calls P f vs.toArray w fun e w' => e = .returned (.bool true) ∧ Below w.heap.size w w' :=
  (h [] (Info.start w) w vs (Inv.start w hg) hr).mono fun e w' ⟨I', ae, A', E, _, he, h1, _⟩ => by
    subst h1;refine ⟨?_, E.os, E.tape, E.out, E.size, fun k hk => (E.blk k (by simp only [Info.start]; rw [if_pos hk])).1⟩
    cases e with
    | returned v => cases he; rfl
    | panicked c => exact he.elim
    | outgrown => exact he.elim
theorem wS {w : World} {a : Addr} {v : Value} (h : w.cell? a = some v) : a.block < w.heap.size ∧ a.spot = none := by
  unfold World.cell? at h
  split at h
  · rename_i c _ _ hb
    have hlt := (Array.getElem?_eq_some_iff.1 hb).1
    split at h
    · cases h
    · rename_i hs
      cases hsp : a.spot with
      | none => exact ⟨hlt, rfl⟩
      | some k => rw [hsp] at hs; exact absurd rfl hs
  · cases h
theorem qy (I : Info) (w : World) (s : ByteArray) : Rel I w (S s.data.toList) (.string s) := by
  have : (⟨s.data.toList.toArray⟩ : ByteArray) = s := by cases s; simp
  show Rel I w (.v (.string ⟨s.data.toList.toArray⟩)) _
  rw [this]; exact .v _
end Go.Av
namespace Go.Proofs.YtjegcifofddgbaaGreatDoor
open Go.RowKit Go.Av
theorem str_fl (l : List (List UInt8)) : Enc.str.fl l = l.map fun s => S s := by
  induction l with
  | nil => rfl
  | cons c s ih => rw [dQ, ih]; rfl
theorem pb (s sep : List UInt8) (hs : s.length < 4294967281) (h1 : 1 ≤ sep.length) : ACalls Tryz.prog 96 [S s, S sep] [] (Ret (slE Enc.str (Go.Lib.split s sep) none) []) := fun F I w vs hI hv => by
  obtain ⟨v1, r1, rfl, e1, hv⟩ := hv.out_cons;obtain ⟨v2, r2, rfl, e2, hv⟩ := hv.out_cons
  rw [hv.out_nil, fv e1, fv e2]
  obtain ⟨m, hm⟩ := kW hI (g := 0) (k := .i64) (r := []) rfl
  have hsep : 1 ≤ (⟨sep.toArray⟩ : ByteArray).size := by simpa [ByteArray.size] using h1
  refine (Tryz.strings_Split ⟨s.toArray⟩ ⟨sep.toArray⟩ m w (by simpa [ByteArray.size] using hs) hm hsep).mono fun e w' ⟨he, hw⟩ => ?_
  subst he; subst hw
  have hlen := Go.Lib.splitB_all ⟨sep.toArray⟩ hsep 0 _ ⟨s.toArray⟩ rfl
  have hdat := Go.Lib.splitB_data ⟨sep.toArray⟩ 0 (Go.Lib.countB ⟨s.toArray⟩ ⟨sep.toArray⟩) ⟨s.toArray⟩
  generalize hL : Go.Lib.splitB ⟨sep.toArray⟩ 0 (Go.Lib.countB ⟨s.toArray⟩ ⟨sep.toArray⟩) ⟨s.toArray⟩ = L at hlen hdat
  have hsp : Go.Lib.split s sep = L.map (·.data.toList) := by rw [hdat]; rfl
  have hll : (Go.Lib.split s sep).length = L.length := by rw [hsp]; simp
  refine ⟨_, .ret (slE Enc.str (Go.Lib.split s sep) none), [], hI.new_still _, hI.alloc_still _, ?_, rfl, rfl⟩
  rw [← hlen, ← hll]
  have hfl : (Enc.str.fl (Go.Lib.split s sep)).length = L.length := by rw [str_fl]; simp [hll]
  refine .sl 1 _ none w.heap.size 0 _ _ (fun j => (L.map Value.string).getD j undef) (by decide) (by rw [hfl, hll, Nat.mul_one]) (Nat.le_refl _) (fun m hm => by simp [Info.still] at hm) (fun j hj => ?_) (fun j hj => ?_) (fun _ h => by cases h)
  · rw [hfl] at hj
    rw [Nat.zero_add]
    simp only [World.cell?, cc]
    simp [List.getD, hj]
  · have hj' : j < L.length := by rw [hfl] at hj; exact hj
    have : (Enc.str.fl (Go.Lib.split s sep))[j] = S (L[j].data.toList) := by
      simp only [str_fl, List.getElem_map, hsp]
    rw [this]
    have h2 : (L.map Value.string).getD j undef = .string L[j] := by simp [List.getD, hj']
    rw [h2]
    exact qy _ _ _
end Go.Proofs.YtjegcifofddgbaaGreatDoor
namespace Go.Proofs.YtjegcifofddgbaaGreatDoor
open Go.RowKit Go.Av
set_option maxRecDepth 100000 in
set_option maxHeartbeats 1000000 in
theorem mM (c0 c1 : AV) (o : Nat) (b : AV) :
    ACalls Tryz.prog 118 [.pt o 2] [.obj o [c0, c1, .v (.pointer none), b], .ty o 123] (Ret (.tup []) [.obj o [c0, c1, .pt o 2, b], .ty o 123]) := by
  refine ax Tryz.func118 rfl rfl ?_;show AW _ _ 20 _ _ _;refine af <| aa ?_;show AR _ _ _ _ _ [0, 1, 2, 3, 4] _;refine aq rfl rfl ?_
  first | (refine au rfl rfl (aj (av := .pt _ _) rfl) ?_) | (refine au rfl rfl (aj (av := .cp _) rfl) ?_) | (refine au rfl rfl (aj (av := .v _) rfl) ?_)
  refine aq rfl rfl ?_
  first | (refine au rfl rfl (ar rfl) ?_) | (refine au rfl rfl (aR rfl) ?_) | (refine au rfl rfl (bc rfl) ?_)
  refine aq rfl rfl <| au rfl rfl (al (n := 0) (by kernel_rfl) rfl) <| aq rfl rfl ?_
  first | refine au rfl rfl (aJ aN rfl rfl) ?_ | refine cq rfl rfl (am (i := 0) aN rfl rfl rfl rfl) ?_ | refine cq rfl rfl (am (i := 1) aN rfl rfl rfl rfl) ?_
  refine aq rfl rfl ?_
  first | (refine au rfl rfl (jn aN rfl rfl) ?_) | (refine au rfl rfl (ip aN rfl rfl) ?_)
  refine ag <| az rfl (fun c1 => ?_) (fun c1 => ?_)
  · have c1p := c1; try simp only [decide_eq_true_eq, decide_eq_false_iff_not, Bool.not_eq_true', Bool.not_eq_false', Bool.not_true, Bool.not_false, Bool.not_eq_eq_eq_not] at c1p
    refine aa ?_;show AR _ _ _ _ _ [0, 1, 2, 3, 4, 5, 6, 7] _;refine aq rfl rfl ?_
    first | (refine au rfl rfl (aj (av := .pt _ _) rfl) ?_) | (refine au rfl rfl (aj (av := .cp _) rfl) ?_) | (refine au rfl rfl (aj (av := .v _) rfl) ?_)
    refine aq rfl rfl ?_
    first | (refine au rfl rfl (aj (av := .pt _ _) rfl) ?_) | (refine au rfl rfl (aj (av := .cp _) rfl) ?_) | (refine au rfl rfl (aj (av := .v _) rfl) ?_)
    refine aq rfl rfl ?_
    first | (refine cq rfl rfl (iq (i := 0) (k := 2) aN cC (by kernel_rfl) (by decide) rfl rfl ?h1) ?_; (case h1 => (simp))) | (refine cq rfl rfl (iq (i := 1) (k := 2) aN cC (by kernel_rfl) (by decide) rfl rfl ?h2) ?_; (case h2 => (simp)))
    refine aq rfl rfl <| au rfl rfl (py (a := .pt _ _) Tryz.func168 ⟨by kernel_rfl, by kernel_rfl, by kernel_rfl, by kernel_rfl⟩ rfl) <| aq rfl rfl ?_
    first | refine cq rfl rfl (gh (i := 0) (j := 1) (k := 2) cC aN (by kernel_rfl) rfl rfl rfl (by kernel_rfl)) ?_ | refine cq rfl rfl (gh (i := 1) (j := 0) (k := 2) cC aN (by kernel_rfl) rfl rfl rfl (by kernel_rfl)) ?_
    refine aq rfl rfl ?_
    first | (refine au rfl rfl (ar rfl) ?_) | (refine au rfl rfl (aR rfl) ?_) | (refine au rfl rfl (bc rfl) ?_)
    refine aq rfl rfl <| au rfl rfl (al (n := 0) (by kernel_rfl) rfl) <| aq rfl rfl ?_
    first | (refine bR rfl (aw (i := 0) (c := .pt _ _) (by kernel_rfl) rfl rfl rfl rfl ?h4) ?_; (case h4 => (simp))) | (refine bR rfl (aw (i := 0) (c := .cp _) (by kernel_rfl) rfl rfl rfl rfl ?h5) ?_; (case h5 => (simp))) | (refine bR rfl (aw (i := 0) (c := .v _) (by kernel_rfl) rfl rfl rfl rfl ?h6) ?_; (case h6 => (simp))) | (refine bR rfl (aw (i := 1) (c := .pt _ _) (by kernel_rfl) rfl rfl rfl rfl ?h7) ?_; (case h7 => (simp))) | (refine bR rfl (aw (i := 1) (c := .cp _) (by kernel_rfl) rfl rfl rfl rfl ?h8) ?_; (case h8 => (simp))) | (refine bR rfl (aw (i := 1) (c := .v _) (by kernel_rfl) rfl rfl rfl rfl ?h9) ?_; (case h9 => (simp)))
    refine ag ?_
    -- END 1 (end)
    show cK _ _ _ _ .normal _
    (refine ⟨rfl, _, _, ck rfl, ?_, ⟨rfl, rfl⟩⟩; all_goals first | exact bp _ | exact bX _ | ((repeat (first | exact bp _ | exact bX _ | refine df _ ?_ | refine de _ ?_)); done) | exact Wv.refl _ | exact Wv.tok _ _ _ | exact Wv.nil _)
  · exact absurd c1 (by decide)
set_option maxRecDepth 100000 in
set_option maxHeartbeats 1000000 in
theorem mL (c0 c1 : AV) (o : Nat) (b : AV) :
    ACalls Tryz.prog 118 [.pt o 2] [.obj o [c0, c1, .pt o 2, b], .ty o 123] (Ret (.tup []) [.obj o [c0, c1, .pt o 2, b], .ty o 123]) := by
  refine ax Tryz.func118 rfl rfl ?_;show AW _ _ 20 _ _ _;refine af <| aa ?_;show AR _ _ _ _ _ [0, 1, 2, 3, 4] _;refine aq rfl rfl ?_
  first | (refine au rfl rfl (aj (av := .pt _ _) rfl) ?_) | (refine au rfl rfl (aj (av := .cp _) rfl) ?_) | (refine au rfl rfl (aj (av := .v _) rfl) ?_)
  refine aq rfl rfl ?_
  first | (refine au rfl rfl (ar rfl) ?_) | (refine au rfl rfl (aR rfl) ?_) | (refine au rfl rfl (bc rfl) ?_)
  refine aq rfl rfl <| au rfl rfl (al (n := 0) (by kernel_rfl) rfl) <| aq rfl rfl ?_
  first | refine au rfl rfl (aJ aN rfl rfl) ?_ | refine cq rfl rfl (am (i := 0) aN rfl rfl rfl rfl) ?_ | refine cq rfl rfl (am (i := 1) aN rfl rfl rfl rfl) ?_
  refine aq rfl rfl ?_
  first | (refine au rfl rfl (jn aN rfl rfl) ?_) | (refine au rfl rfl (ip aN rfl rfl) ?_)
  refine ag <| az rfl (fun c1 => ?_) (fun c1 => ?_)
  · exact absurd c1 (by decide)
  · have c1p := c1; try simp only [decide_eq_true_eq, decide_eq_false_iff_not, Bool.not_eq_true', Bool.not_eq_false', Bool.not_true, Bool.not_false, Bool.not_eq_eq_eq_not] at c1p
    refine af <| aa ?_;show AR _ _ _ _ _ [0, 1, 2, 3, 4, 5] _;refine aq rfl rfl ?_
    first | (refine au rfl rfl (aj (av := .pt _ _) rfl) ?_) | (refine au rfl rfl (aj (av := .cp _) rfl) ?_) | (refine au rfl rfl (aj (av := .v _) rfl) ?_)
    refine aq rfl rfl ?_
    first | (refine au rfl rfl (ar rfl) ?_) | (refine au rfl rfl (aR rfl) ?_) | (refine au rfl rfl (bc rfl) ?_)
    refine aq rfl rfl <| au rfl rfl (al (n := 0) (by kernel_rfl) rfl) <| aq rfl rfl ?_
    first | refine au rfl rfl (aJ aN rfl rfl) ?_ | refine cq rfl rfl (am (i := 0) aN rfl rfl rfl rfl) ?_ | refine cq rfl rfl (am (i := 1) aN rfl rfl rfl rfl) ?_
    refine aq rfl rfl ?_
    first | (refine au rfl rfl (aj (av := .pt _ _) rfl) ?_) | (refine au rfl rfl (aj (av := .cp _) rfl) ?_) | (refine au rfl rfl (aj (av := .v _) rfl) ?_)
    refine aq rfl rfl ?_
    first | (refine au rfl rfl (od aN rfl rfl) ?_) | (refine au rfl rfl (nc aN rfl rfl) ?_) | (refine au rfl rfl (pz (k := 2) aN (by kernel_rfl) (by decide) rfl rfl) ?_)
    refine ag <| az rfl (fun c2 => ?_) (fun c2 => ?_)
    · have c2p := c2; try simp only [decide_eq_true_eq, decide_eq_false_iff_not, Bool.not_eq_true', Bool.not_eq_false', Bool.not_true, Bool.not_false, Bool.not_eq_eq_eq_not] at c2p
      exfalso; first | omega | simp_all
    · have c2p := c2; try simp only [decide_eq_true_eq, decide_eq_false_iff_not, Bool.not_eq_true', Bool.not_eq_false', Bool.not_true, Bool.not_false, Bool.not_eq_eq_eq_not] at c2p
      refine aC ?_
      -- END 1 (end)
      show cK _ _ _ _ .normal _
      (refine ⟨rfl, _, _, ck rfl, ?_, ⟨rfl, rfl⟩⟩; all_goals first | exact bp _ | exact bX _ | ((repeat (first | exact bp _ | exact bX _ | refine df _ ?_ | refine de _ ?_)); done) | exact Wv.refl _ | exact Wv.tok _ _ _ | exact Wv.nil _)
theorem nq (c0 c1 : AV) (o : Nat) (a b : AV) (ha : a = .v (.pointer none) ∨ a = .pt o 2) : ACalls Tryz.prog 118 [.pt o 2] [.obj o [c0, c1, a, b], .ty o 123] (Ret (.tup []) [.obj o [c0, c1, .pt o 2, b], .ty o 123]) := by
  rcases ha with rfl | rfl
  · exact mM c0 c1 o b
  · exact mL c0 c1 o b
set_option maxRecDepth 100000 in
set_option maxHeartbeats 1000000 in
theorem cY (c0 c1 : AV) (o : Nat) (a : AV) (ha : a = .v (.pointer none) ∨ a = .pt o 2) (l s : List UInt8) (t : Nat) (hl : l.length + s.length ≤ 1000000000) :
    ACalls Tryz.prog 62 [.pt o 2, S s] [.obj o [c0, c1, a, slE Enc.byte l (some t)], .ty o 123, .tok t 5] (fun e A' => e = .ret (.tup [i64 s.length, .v .nilIface]) ∧ ∃ t', A' = [.obj o [c0, c1, .pt o 2, slE Enc.byte (l ++ s) (some t')], .ty o 123, .tok t' 5]) := by
  refine ax Tryz.func62 rfl rfl ?_;show AW _ _ 19 _ _ _;refine af <| aa ?_;show AR _ _ _ _ _ [0, 1] _;refine aq rfl rfl <| au rfl rfl (aB (av := .v _) rfl) <| aq rfl rfl <| au rfl rfl (aB (av := .v _) rfl) <| ag <| af <| aa ?_;show AR _ _ _ _ _ [0, 1] _;refine aq rfl rfl ?_
  first | (refine au rfl rfl (aj (av := .pt _ _) rfl) ?_) | (refine au rfl rfl (aj (av := .cp _) rfl) ?_) | (refine au rfl rfl (aj (av := .v _) rfl) ?_)
  refine aq rfl rfl <| dD [.tok t 5] rfl vk rfl (nq c0 c1 o a (slE Enc.byte l (some t)) ha) ?p1 ?k1 ?q1
  (case p1 => (exact bq _))
  (case q1 => (rintro c A' ⟨h, _⟩; cases h))
  rintro av A' ⟨h, rfl⟩; cases h
  refine ag <| af <| aa ?_;show AR _ _ _ _ _ [0, 1, 2, 3, 4, 5, 6, 7, 8, 9] _;refine aq rfl rfl ?_
  first | (refine au rfl rfl (aj (av := .pt _ _) rfl) ?_) | (refine au rfl rfl (aj (av := .cp _) rfl) ?_) | (refine au rfl rfl (aj (av := .v _) rfl) ?_)
  refine aq rfl rfl ?_
  first | (refine au rfl rfl (aj (av := .pt _ _) rfl) ?_) | (refine au rfl rfl (aj (av := .cp _) rfl) ?_) | (refine au rfl rfl (aj (av := .v _) rfl) ?_)
  refine aq rfl rfl ?_
  first | (refine au rfl rfl (ar rfl) ?_) | (refine au rfl rfl (aR rfl) ?_) | (refine au rfl rfl (bc rfl) ?_)
  refine aq rfl rfl <| au rfl rfl (al (n := 1) (by kernel_rfl) rfl) <| aq rfl rfl ?_
  first | refine au rfl rfl (aJ ac rfl rfl) ?_ | refine cq rfl rfl (am (i := 0) ac rfl rfl rfl rfl) ?_ | refine cq rfl rfl (am (i := 1) ac rfl rfl rfl rfl) ?_
  refine aq rfl rfl <| au rfl rfl (aj (av := .v _) rfl) <| aq rfl rfl ?_
  first | (refine AO.opx rfl rfl (di (bytes := 1) 0 ac ab rfl (by kernel_rfl) rfl rfl rfl ?h3 ?h4) ?_; (case h3 => (first | omega | (simp; done) | (simp; omega))); (case h4 => (first | omega | (simp; done) | (simp; omega)))) | (refine AO.opx rfl rfl (di (bytes := 1) 1 ac ab rfl (by kernel_rfl) rfl rfl rfl ?h5 ?h6) ?_; (case h5 => (first | omega | (simp; done) | (simp; omega))); (case h6 => (first | omega | (simp; done) | (simp; omega)))) | (refine AO.opx rfl rfl (di (bytes := 1) 2 ac ab rfl (by kernel_rfl) rfl rfl rfl ?h7 ?h8) ?_; (case h7 => (first | omega | (simp; done) | (simp; omega))); (case h8 => (first | omega | (simp; done) | (simp; omega)))) | (refine AO.opx rfl rfl (di (bytes := 1) 3 ac ab rfl (by kernel_rfl) rfl rfl rfl ?h9 ?h10) ?_; (case h9 => (first | omega | (simp; done) | (simp; omega))); (case h10 => (first | omega | (simp; done) | (simp; omega))))
  rintro _ _ ⟨t14, rfl, rfl⟩;refine aq rfl rfl ?_
  first | (refine au rfl rfl (ar rfl) ?_) | (refine au rfl rfl (aR rfl) ?_) | (refine au rfl rfl (bc rfl) ?_)
  refine aq rfl rfl <| au rfl rfl (al (n := 1) (by kernel_rfl) rfl) <| aq rfl rfl ?_
  first | (refine bR rfl (aw (i := 0) (c := slE _ _ _) (by kernel_rfl) rfl rfl rfl rfl ?h12) ?_; (case h12 => (simp))) | (refine bR rfl (aw (i := 0) (c := .v _) (by kernel_rfl) rfl rfl rfl rfl ?h13) ?_; (case h13 => (simp))) | (refine bR rfl (aw (i := 0) (c := .vw _ _ _ _) (by kernel_rfl) rfl rfl rfl rfl ?h14) ?_; (case h14 => (simp))) | (refine bR rfl (aw (i := 1) (c := slE _ _ _) (by kernel_rfl) rfl rfl rfl rfl ?h15) ?_; (case h15 => (simp))) | (refine bR rfl (aw (i := 1) (c := .v _) (by kernel_rfl) rfl rfl rfl rfl ?h16) ?_; (case h16 => (simp))) | (refine bR rfl (aw (i := 1) (c := .vw _ _ _ _) (by kernel_rfl) rfl rfl rfl rfl ?h17) ?_; (case h17 => (simp)))
  refine ag <| af <| aa ?_;show AR _ _ _ _ _ [0, 1, 2, 3] _;refine aq rfl rfl <| au rfl rfl (aj (av := .v _) rfl) <| aq rfl rfl <| au rfl rfl (aU ab rfl) <| aq rfl rfl <| au rfl rfl (aB (av := .v _) rfl) <| aq rfl rfl <| au rfl rfl (aB (av := .v _) rfl) <| ag <| aL ?_
  -- END 1 (ret)
  show cK _ _ _ _ .ret _;exact ⟨rfl, _, _, ResV.two (av := .v _) (bv := .v _) rfl rfl rfl, bp _, rfl, t14, rfl⟩
set_option maxRecDepth 100000 in
set_option maxHeartbeats 1000000 in
theorem qp (c0 c1 : AV) (o : Nat) (a b : AV) :
    ACalls Tryz.prog 196 [.pt o 2] [.obj o [c0, c1, a, b]] (Ret (.tup []) [.obj o [c0, c1, .v (.pointer none), ah]]) := by
  refine ax Tryz.func196 rfl rfl ?_;show AW _ _ 8 _ _ _;refine af <| aa ?_;show AR _ _ _ _ _ [0, 1, 2, 3] _;refine aq rfl rfl ?_
  first | (refine au rfl rfl (aj (av := .pt _ _) rfl) ?_) | (refine au rfl rfl (aj (av := .cp _) rfl) ?_) | (refine au rfl rfl (aj (av := .v _) rfl) ?_)
  refine aq rfl rfl ?_
  first | (refine au rfl rfl (ar rfl) ?_) | (refine au rfl rfl (aR rfl) ?_) | (refine au rfl rfl (bc rfl) ?_)
  refine aq rfl rfl <| au rfl rfl (al (n := 0) (by kernel_rfl) rfl) <| aq rfl rfl ?_
  first | (refine bR rfl (aw (i := 0) (c := .pt _ _) (by kernel_rfl) rfl rfl rfl rfl ?h2) ?_; (case h2 => (simp))) | (refine bR rfl (aw (i := 0) (c := .cp _) (by kernel_rfl) rfl rfl rfl rfl ?h3) ?_; (case h3 => (simp))) | (refine bR rfl (aw (i := 0) (c := .v _) (by kernel_rfl) rfl rfl rfl rfl ?h4) ?_; (case h4 => (simp))) | (refine bR rfl (aw (i := 1) (c := .pt _ _) (by kernel_rfl) rfl rfl rfl rfl ?h5) ?_; (case h5 => (simp))) | (refine bR rfl (aw (i := 1) (c := .cp _) (by kernel_rfl) rfl rfl rfl rfl ?h6) ?_; (case h6 => (simp))) | (refine bR rfl (aw (i := 1) (c := .v _) (by kernel_rfl) rfl rfl rfl rfl ?h7) ?_; (case h7 => (simp)))
  refine ag <| aa ?_;show AR _ _ _ _ _ [0, 1, 2, 3] _;refine aq rfl rfl ?_
  first | (refine au rfl rfl (aj (av := .pt _ _) rfl) ?_) | (refine au rfl rfl (aj (av := .cp _) rfl) ?_) | (refine au rfl rfl (aj (av := .v _) rfl) ?_)
  refine aq rfl rfl ?_
  first | (refine au rfl rfl (ar rfl) ?_) | (refine au rfl rfl (aR rfl) ?_) | (refine au rfl rfl (bc rfl) ?_)
  refine aq rfl rfl <| au rfl rfl (al (n := 1) (by kernel_rfl) rfl) <| aq rfl rfl ?_
  first | (refine bR rfl (aw (i := 0) (c := slE _ _ _) (by kernel_rfl) rfl rfl rfl rfl ?h9) ?_; (case h9 => (simp))) | (refine bR rfl (aw (i := 0) (c := .v _) (by kernel_rfl) rfl rfl rfl rfl ?h10) ?_; (case h10 => (simp))) | (refine bR rfl (aw (i := 0) (c := .vw _ _ _ _) (by kernel_rfl) rfl rfl rfl rfl ?h11) ?_; (case h11 => (simp))) | (refine bR rfl (aw (i := 1) (c := slE _ _ _) (by kernel_rfl) rfl rfl rfl rfl ?h12) ?_; (case h12 => (simp))) | (refine bR rfl (aw (i := 1) (c := .v _) (by kernel_rfl) rfl rfl rfl rfl ?h13) ?_; (case h13 => (simp))) | (refine bR rfl (aw (i := 1) (c := .vw _ _ _ _) (by kernel_rfl) rfl rfl rfl rfl ?h14) ?_; (case h14 => (simp)))
  refine ag ?_
  -- END 1 (end)
  show cK _ _ _ _ .normal _
  (refine ⟨rfl, _, _, ck rfl, ?_, ⟨rfl, rfl⟩⟩; all_goals first | exact bp _ | exact bX _ | ((repeat (first | exact bp _ | exact bX _ | refine df _ ?_ | refine de _ ?_)); done) | exact Wv.refl _ | exact Wv.tok _ _ _ | exact Wv.nil _)
set_option maxRecDepth 100000 in
set_option maxHeartbeats 1000000 in
theorem lL (c0 c1 : AV) (o : Nat) (a : AV) (l : List UInt8) (t : Nat) (hl : l.length ≤ 1000000000) :
    ACalls Tryz.prog 63 [.pt o 2] [.obj o [c0, c1, a, slE Enc.byte l (some t)], .tok t 5] (Ret (S l) [.obj o [c0, c1, a, slE Enc.byte l (some t)]]) := by
  refine ax Tryz.func63 rfl rfl ?_;show AW _ _ 14 _ _ _;refine af <| aa ?_;show AR _ _ _ _ _ [0] _;refine aq rfl rfl <| au rfl rfl (aB (av := .v _) rfl) <| ag <| af <| bz (by kernel_rfl) ?_;show AI _ _ _ _ _ 12 (Array.replicate 12 false) _
  first | (refine aM (i := 0) rfl rfl (by kernel_rfl) (by kernel_rfl) (by kernel_rfl) (fun _ _ h => by obtain ⟨_, _, _, h, _⟩ := h; cases h) (aj (av := .pt _ _) rfl) ?_) | (refine aM (i := 0) rfl rfl (by kernel_rfl) (by kernel_rfl) (by kernel_rfl) (fun _ _ h => by obtain ⟨_, _, _, h, _⟩ := h; cases h) (aj (av := .cp _) rfl) ?_) | (refine aM (i := 0) rfl rfl (by kernel_rfl) (by kernel_rfl) (by kernel_rfl) (fun _ _ h => by obtain ⟨_, _, _, h, _⟩ := h; cases h) (aj (av := .v _) rfl) ?_)
  show AI _ _ _ _ _ _ #[true, false, false, false, false, false, false, false, false, false, false, false] _
  first | (refine aM (i := 1) rfl rfl (by kernel_rfl) (by kernel_rfl) (by kernel_rfl) (fun _ _ h => by obtain ⟨_, _, _, h, _⟩ := h; cases h) (ar rfl) ?_) | (refine aM (i := 1) rfl rfl (by kernel_rfl) (by kernel_rfl) (by kernel_rfl) (fun _ _ h => by obtain ⟨_, _, _, h, _⟩ := h; cases h) (aR rfl) ?_) | (refine aM (i := 1) rfl rfl (by kernel_rfl) (by kernel_rfl) (by kernel_rfl) (fun _ _ h => by obtain ⟨_, _, _, h, _⟩ := h; cases h) (bc rfl) ?_)
  show AI _ _ _ _ _ _ #[true, true, false, false, false, false, false, false, false, false, false, false] _;refine aM (i := 2) rfl rfl (by kernel_rfl) (by kernel_rfl) (by kernel_rfl) (fun _ _ h => by obtain ⟨_, _, _, h, _⟩ := h; cases h) (al (n := 1) (by kernel_rfl) rfl) ?_;show AI _ _ _ _ _ _ #[true, true, true, false, false, false, false, false, false, false, false, false] _
  first | (refine aM (i := 5) rfl rfl (by kernel_rfl) (by kernel_rfl) (by kernel_rfl) (fun _ _ h => by obtain ⟨_, _, _, h, _⟩ := h; cases h) (aj (av := .pt _ _) rfl) ?_) | (refine aM (i := 5) rfl rfl (by kernel_rfl) (by kernel_rfl) (by kernel_rfl) (fun _ _ h => by obtain ⟨_, _, _, h, _⟩ := h; cases h) (aj (av := .cp _) rfl) ?_) | (refine aM (i := 5) rfl rfl (by kernel_rfl) (by kernel_rfl) (by kernel_rfl) (fun _ _ h => by obtain ⟨_, _, _, h, _⟩ := h; cases h) (aj (av := .v _) rfl) ?_)
  show AI _ _ _ _ _ _ #[true, true, true, false, false, true, false, false, false, false, false, false] _
  first | (refine aM (i := 6) rfl rfl (by kernel_rfl) (by kernel_rfl) (by kernel_rfl) (fun _ _ h => by obtain ⟨_, _, _, h, _⟩ := h; cases h) (ar rfl) ?_) | (refine aM (i := 6) rfl rfl (by kernel_rfl) (by kernel_rfl) (by kernel_rfl) (fun _ _ h => by obtain ⟨_, _, _, h, _⟩ := h; cases h) (aR rfl) ?_) | (refine aM (i := 6) rfl rfl (by kernel_rfl) (by kernel_rfl) (by kernel_rfl) (fun _ _ h => by obtain ⟨_, _, _, h, _⟩ := h; cases h) (bc rfl) ?_)
  show AI _ _ _ _ _ _ #[true, true, true, false, false, true, true, false, false, false, false, false] _;refine aM (i := 7) rfl rfl (by kernel_rfl) (by kernel_rfl) (by kernel_rfl) (fun _ _ h => by obtain ⟨_, _, _, h, _⟩ := h; cases h) (al (n := 1) (by kernel_rfl) rfl) ?_;show AI _ _ _ _ _ _ #[true, true, true, false, false, true, true, true, false, false, false, false] _;refine dE (i := 3) (j := 8) (by kernel_rfl) rfl rfl rfl rfl ?_ ?_
  · first | refine aW rfl (am (i := 0) ac rfl rfl rfl rfl) ?_ | refine aW rfl (am (i := 1) ac rfl rfl rfl rfl) ?_
    show AI _ _ _ _ _ _ #[true, true, true, true, false, true, true, true, false, false, false, false] _;refine dE (i := 4) (j := 8) (by kernel_rfl) rfl rfl rfl rfl ?_ ?_
    · first | refine aW rfl (cN (i := 0) bi rfl rfl) ?_ | refine aW rfl (cN (i := 1) bi rfl rfl) ?_
      show AI _ _ _ _ _ _ #[true, true, true, true, true, true, true, true, false, false, false, false] _;refine aX (i := 8) (by kernel_rfl) rfl rfl ?_
      first | refine aW rfl (am (i := 0) ac rfl rfl rfl rfl) ?_ | refine aW rfl (am (i := 1) ac rfl rfl rfl rfl) ?_
      show AI _ _ _ _ _ _ #[true, true, true, true, true, true, true, true, true, false, false, false] _
      first | (refine aM (i := 9) rfl rfl (by kernel_rfl) (by kernel_rfl) (by kernel_rfl) (fun _ _ h => by obtain ⟨_, _, _, h, _⟩ := h; cases h) (aQ ac rfl) ?_) | (refine aM (i := 9) rfl rfl (by kernel_rfl) (by kernel_rfl) (by kernel_rfl) (fun _ _ h => by obtain ⟨_, _, _, h, _⟩ := h; cases h) (cm ac rfl) ?_)
      show AI _ _ _ _ _ _ #[true, true, true, true, true, true, true, true, true, true, false, false] _;refine aX (i := 10) (by kernel_rfl) rfl rfl ?_
      first | (refine aW rfl (ci (i := 0) (El := 5) bi (by kernel_rfl) rfl rfl rfl ?h2 rfl) ?_; (case h2 => (first | omega | (simp; omega)))) | (refine aW rfl (ci (i := 1) (El := 5) bi (by kernel_rfl) rfl rfl rfl ?h3 rfl) ?_; (case h3 => (first | omega | (simp; omega))))
      show AI _ _ _ _ _ _ #[true, true, true, true, true, true, true, true, true, true, true, false] _;refine aM (i := 11) rfl rfl (by kernel_rfl) (by kernel_rfl) (by kernel_rfl) (fun _ _ h => by obtain ⟨_, _, _, h, _⟩ := h; cases h) (aB (av := .v _) rfl) ?_;show AI _ _ _ _ _ _ #[true, true, true, true, true, true, true, true, true, true, true, true] _;refine bE rfl <| aL ?_
      -- END 1 (ret)
      show cK _ _ _ _ .ret _
      (refine ⟨rfl, _, _, aH rfl ?_, ?_, ⟨rfl, rfl⟩⟩; all_goals first | exact bp _ | exact bX _ | ((repeat (first | exact bp _ | exact bX _ | refine df _ ?_ | refine de _ ?_)); done) | exact Wv.refl _ | exact Wv.tok _ _ _ | exact Wv.nil _)
    · first | refine aW rfl (am (i := 0) ac rfl rfl rfl rfl) ?_ | refine aW rfl (am (i := 1) ac rfl rfl rfl rfl) ?_
      show AI _ _ _ _ _ _ #[true, true, true, true, false, true, true, true, true, false, false, false] _
      first | (refine aM (i := 9) rfl rfl (by kernel_rfl) (by kernel_rfl) (by kernel_rfl) (fun _ _ h => by obtain ⟨_, _, _, h, _⟩ := h; cases h) (aQ ac rfl) ?_) | (refine aM (i := 9) rfl rfl (by kernel_rfl) (by kernel_rfl) (by kernel_rfl) (fun _ _ h => by obtain ⟨_, _, _, h, _⟩ := h; cases h) (cm ac rfl) ?_)
      show AI _ _ _ _ _ _ #[true, true, true, true, false, true, true, true, true, true, false, false] _;refine aX (i := 4) (by kernel_rfl) rfl rfl ?_
      first | refine aW rfl (cN (i := 0) bi rfl rfl) ?_ | refine aW rfl (cN (i := 1) bi rfl rfl) ?_
      show AI _ _ _ _ _ _ #[true, true, true, true, true, true, true, true, true, true, false, false] _;refine aX (i := 10) (by kernel_rfl) rfl rfl ?_
      first | (refine aW rfl (ci (i := 0) (El := 5) bi (by kernel_rfl) rfl rfl rfl ?h5 rfl) ?_; (case h5 => (first | omega | (simp; omega)))) | (refine aW rfl (ci (i := 1) (El := 5) bi (by kernel_rfl) rfl rfl rfl ?h6 rfl) ?_; (case h6 => (first | omega | (simp; omega))))
      show AI _ _ _ _ _ _ #[true, true, true, true, true, true, true, true, true, true, true, false] _;refine aM (i := 11) rfl rfl (by kernel_rfl) (by kernel_rfl) (by kernel_rfl) (fun _ _ h => by obtain ⟨_, _, _, h, _⟩ := h; cases h) (aB (av := .v _) rfl) ?_;show AI _ _ _ _ _ _ #[true, true, true, true, true, true, true, true, true, true, true, true] _;refine bE rfl <| aL ?_
      -- END 2 (ret)
      show cK _ _ _ _ .ret _
      (refine ⟨rfl, _, _, aH rfl ?_, ?_, ⟨rfl, rfl⟩⟩; all_goals first | exact bp _ | exact bX _ | ((repeat (first | exact bp _ | exact bX _ | refine df _ ?_ | refine de _ ?_)); done) | exact Wv.refl _ | exact Wv.tok _ _ _ | exact Wv.nil _)
  · first | refine aW rfl (am (i := 0) ac rfl rfl rfl rfl) ?_ | refine aW rfl (am (i := 1) ac rfl rfl rfl rfl) ?_
    show AI _ _ _ _ _ _ #[true, true, true, false, false, true, true, true, true, false, false, false] _
    first | (refine aM (i := 9) rfl rfl (by kernel_rfl) (by kernel_rfl) (by kernel_rfl) (fun _ _ h => by obtain ⟨_, _, _, h, _⟩ := h; cases h) (aQ ac rfl) ?_) | (refine aM (i := 9) rfl rfl (by kernel_rfl) (by kernel_rfl) (by kernel_rfl) (fun _ _ h => by obtain ⟨_, _, _, h, _⟩ := h; cases h) (cm ac rfl) ?_)
    show AI _ _ _ _ _ _ #[true, true, true, false, false, true, true, true, true, true, false, false] _;refine aX (i := 3) (by kernel_rfl) rfl rfl ?_
    first | refine aW rfl (am (i := 0) ac rfl rfl rfl rfl) ?_ | refine aW rfl (am (i := 1) ac rfl rfl rfl rfl) ?_
    show AI _ _ _ _ _ _ #[true, true, true, true, false, true, true, true, true, true, false, false] _;refine aX (i := 4) (by kernel_rfl) rfl rfl ?_
    first | refine aW rfl (cN (i := 0) bi rfl rfl) ?_ | refine aW rfl (cN (i := 1) bi rfl rfl) ?_
    show AI _ _ _ _ _ _ #[true, true, true, true, true, true, true, true, true, true, false, false] _;refine aX (i := 10) (by kernel_rfl) rfl rfl ?_
    first | (refine aW rfl (ci (i := 0) (El := 5) bi (by kernel_rfl) rfl rfl rfl ?h8 rfl) ?_; (case h8 => (first | omega | (simp; omega)))) | (refine aW rfl (ci (i := 1) (El := 5) bi (by kernel_rfl) rfl rfl rfl ?h9 rfl) ?_; (case h9 => (first | omega | (simp; omega))))
    show AI _ _ _ _ _ _ #[true, true, true, true, true, true, true, true, true, true, true, false] _;refine aM (i := 11) rfl rfl (by kernel_rfl) (by kernel_rfl) (by kernel_rfl) (fun _ _ h => by obtain ⟨_, _, _, h, _⟩ := h; cases h) (aB (av := .v _) rfl) ?_;show AI _ _ _ _ _ _ #[true, true, true, true, true, true, true, true, true, true, true, true] _;refine bE rfl <| aL ?_
    -- END 3 (ret)
    show cK _ _ _ _ .ret _
    (refine ⟨rfl, _, _, aH rfl ?_, ?_, ⟨rfl, rfl⟩⟩; all_goals first | exact bp _ | exact bX _ | ((repeat (first | exact bp _ | exact bX _ | refine df _ ?_ | refine de _ ?_)); done) | exact Wv.refl _ | exact Wv.tok _ _ _ | exact Wv.nil _)
end Go.Proofs.YtjegcifofddgbaaGreatDoor
namespace Go.Av
open Go.RowKit
def ResT (P : Program) (fn : Func) (N : Nat) (e : Env) (A : List Chunk) (av : AV) : Prop :=
  ∀ F I w tmps, Inv I (A ++ F) w → tmps.size = N → (∀ t, Rel I w (ev e t) (tmps.getD t undef)) → ∃ v, (results fn tmps).run P w = .ok v w ∧ Rel I w av v
def ADCalls (P : Program) (f : FuncId) (args : List AV) (A : List Chunk) (u : FrameMode) (R : AE → FrameMode → List Chunk → Prop) : Prop :=
  ∀ F I w vs, Inv I (A ++ F) w → RelL I w args vs → CallsD P f vs.toArray u w fun e u' w' => ∃ I' ae A', Ext I w I' w' ∧ Inv I' (A' ++ F) w' ∧ RelE I' w' ae e ∧ R ae u' A'
def ALeaves (P : Program) (fn : Func) (N : Nat) (e : Env) (R : AE → List Chunk → Prop) : List ADef → FrameMode → List Chunk → Prop
  | [], .returning, A => ∃ av A', ResT P fn N e A av ∧ Sub A' A ∧ R (.ret av) A'
  | [], .panicking c, A => ∃ A', Sub A' A ∧ R (.pan c) A'
  | [], .run, _ => False
  | .call f cap args :: ds, u, A => u ≠ .run ∧ ∃ g A1 B, f = .func g ∧ (∀ as_ w, (callFunc g as_).run P w = .ok (.enter g as_) w) ∧ A.Perm (A1 ++ B) ∧
      ADCalls P g (args ++ cap) A1 u fun ae u' A' => match ae with
        | .ret _ => ALeaves P fn N e R ds (settle u') (A' ++ B)
        | .pan c => ALeaves P fn N e R ds (raised u' c) (A' ++ B)
  | .mark _ :: _, _, _ => False
section
variable {P : Program} {fn : Func} {N : Nat} {e : Env} {R : AE → List Chunk → Prop} {F : List Chunk} {I0 : Info} {w0 : World}
theorem ALeaves.sound : ∀ (ads : List ADef) (u : FrameMode) (A : List Chunk) (ds : List Deferred) (I : Info) (w : World) (tmps : Array Value),
    Ext I0 w0 I w → Inv I (A ++ F) w → tmps.size = N → (∀ t, Rel I w (ev e t) (tmps.getD t undef)) → RelDs I w ads ds → ALeaves P fn N e R ads u A →
    Leaves P fn tmps (fun en w' => ∃ I' ae A', Ext I0 w0 I' w' ∧ Inv I' (A' ++ F) w' ∧ RelE I' w' ae en ∧ R ae A') ds u w := by
  intro ads
  induction ads with
  | nil =>
    intro u A ds I w tmps E hI hs ht hd h
    cases hd
    cases u with
    | run => exact h.elim
    | returning =>
      obtain ⟨av, A', hr, hsub, hR⟩ := h;obtain ⟨v, hrun, hv⟩ := hr F I w tmps hI hs ht;exact ⟨v, hrun, I, .ret av, A', E, hsub.inv hI, hv, hR⟩
    | panicking c =>
      obtain ⟨A', hsub, hR⟩ := h;exact ⟨I, .pan c, A', E, hsub.inv hI, rfl, hR⟩
  | cons ad ads ih =>
    intro u A ds I w tmps E hI hs ht hd h
    cases hd with
    | cons hd hds =>
      rename_i d ds
      cases ad with
      | mark o => exact h.elim
      | call f cap args =>
        obtain ⟨hu, g, A1, B, rfl, hf, hp, hc⟩ := h
        cases hd with
        | call f cap args xs ys hx hy =>
          have hI2 : Inv I (A1 ++ (B ++ F)) w := by rw [← List.append_assoc]; exact hI.perm (hp.append_right F)
          refine ⟨hu, .func g, xs.toArray, g, (ys ++ xs).toArray, rfl, ?_, ?_⟩
          · simp only [invoke]
            rw [show ys.toArray ++ xs.toArray = (ys ++ xs).toArray by simp]
            exact hf _ _
          · intro c cs hcm
            obtain ⟨en, u', w', fr, hq, h1, h2, h3⟩ := hc (B ++ F) I w _ hI2 (hy.append hx) c cs hcm;refine ⟨en, u', w', fr, ?_, h1, h2, h3⟩;obtain ⟨I', ae, A', E', hI', hre, hR⟩ := hq
            have hI3 : Inv I' ((A' ++ B) ++ F) w' := by rw [List.append_assoc]; exact hI'
            cases en with
            | returned v =>
              cases ae with
              | ret av => exact ih _ _ _ I' w' tmps (E.trans E') hI3 hs (fun t => (ht t).mono E') (hds.mono E') hR
              | pan c => exact hre.elim
            | panicked c =>
              cases ae with
              | ret av => exact hre.elim
              | pan c' => cases hre; exact ih _ _ _ I' w' tmps (E.trans E') hI3 hs (fun t => (ht t).mono E') (hds.mono E') hR
            | outgrown => cases ae <;> exact hre.elim
def RetPostD (P : Program) (fn : Func) (N : Nat) (K : List Nat) (R : AE → List Chunk → Prop) : eH
  | .normal, s | .ret, s => ALeaves P fn N s.env R s.ds .returning s.A
  | .panic c, s => ∃ e0 : Env, (∀ p ∈ e0, p.1 ∈ K) ∧ Env.le s.env e0 ∧ ALeaves P fn N e0 R s.ds (.panicking c) s.A
  | _, _ => False
theorem RetPostD.free {K : List Nat} {d : Nat} (hd : K.contains d = false) {c : List PanicEntry} {s : St} (h : RetPostD P fn N K R (.panic c) s) : RetPostD P fn N K R (.panic c) ⟨(d, .any) :: s.env, s.ds, s.A⟩ := by
  obtain ⟨e0, h1, h2, h3⟩ := h;refine ⟨e0, h1, fun p hp => ?_, h3⟩
  have hne : d ≠ p.1 := fun e => by
    have := h1 p hp
    rw [← e] at this
    simp at hd
    exact hd this
  have hb : Nat.beq d p.1 = false := by
    cases hb : Nat.beq d p.1 with
    | false => rfl
    | true => exact absurd (Nat.eq_of_beq_eq_true hb) hne
  simp only [ev, hb]
  exact h2 p hp
end
theorem pg {args : List AV} {vs : List Value} {fn : Func} {I : Info} {w : World} {A : List Chunk} (hv : RelL I w args vs) (hl' : args.length ≤ fn.ntmps) :
    RelS fn.ntmps I w ⟨kS 0 args, [], A⟩ { tmps := vs.toArray ++ Array.replicate (fn.ntmps - vs.toArray.size) undef, defers := [] } := by
  refine ⟨?_, fun t => ?_, .nil⟩
  · simp [hv.1]; omega
  · show Rel I w (ev (kS 0 args) t) _
    rw [si]
    simp only [Nat.zero_le, if_true, Nat.sub_zero]
    by_cases ht : t < args.length
    · have := hv.2 t ht
      have hx : t < vs.length := by rw [hv.1]; exact ht
      rw [show args.getD t .any = args[t] by simp [List.getD, ht]]
      have e1 : (vs.toArray ++ Array.replicate (fn.ntmps - vs.toArray.size) undef).getD t undef = vs.getD t undef := by
        rw [Array.getD_eq_getD_getElem?, Array.getElem?_append_left (by simpa using hx)]
        simp [List.getD]
      rw [e1]; exact this
    · rw [show args.getD t .any = .any by simp [List.getD, List.getElem?_eq_none (Nat.le_of_not_lt ht)]]
      exact .any _
theorem pY {P : Program} {f : FuncId} {fn : Func} {c : Code} {args : List AV} {A : List Chunk} {R : AE → List Chunk → Prop} (K : List Nat) (hf : P.funcs[f]? = some fn) (hb : fn.body = some c) (hl : Nat.ble args.length fn.ntmps = true)
    (h : AW P none fn.ntmps c (RetPostD P fn fn.ntmps K R) ⟨kS 0 args, [], A⟩) : ACalls P f args A R := fun F I w vs hI hv => by
  refine calls_of_wp_defers hf hb ((wpIn_wide (n := 0)).1 (wpIn_mono (h F I w _ hI (pg hv (ai hl))) fun e a w' hq => ?_));obtain ⟨I', s', E, hI', hS', hq⟩ := hq
  cases e with
  | normal => exact ALeaves.sound s'.ds .returning s'.A a.defers I' w' a.tmps E hI' hS'.size hS'.env hS'.ds hq
  | ret => exact ALeaves.sound s'.ds .returning s'.A a.defers I' w' a.tmps E hI' hS'.size hS'.env hS'.ds hq
  | panic c =>
    obtain ⟨e0, _, hle, hq⟩ := hq;exact ALeaves.sound s'.ds (.panicking c) s'.A a.defers I' w' a.tmps E hI' hS'.size (fun t => (hle.ev t).rel (hS'.env t)) hS'.ds hq
  | exit id => exact hq.elim
  | goto l => exact hq.elim
  | outgrown => exact hq.elim
theorem ResT.none {P : Program} {fn : Func} {N : Nat} {e : Env} {A : List Chunk} (hr : fn.results = #[]) : ResT P fn N e A (.tup []) := fun F I w tmps hI hs ht =>
  ⟨.tuple #[], by simp [results, hr], .tup [] [] rfl fun j h => absurd h (Nat.not_lt_zero _)⟩
theorem vz {P : Program} {o : Oper} {a : Act} {K K' : Act → World → Prop} {Q Q' : Exit → Act → World → Prop} {r : Result Next} (h : ∀ a w, K a w → K' a w) (hq : ∀ e a w, Q e a w → Q' e a w) (hh : o.upon P a K Q r) : o.upon P a K' Q' r := by
  cases r with
  | ok n w' =>
    cases n <;> simp only [Oper.upon] at hh ⊢ <;> first
      | exact h _ _ hh
      | exact hh.mono fun e w'' he => by cases e <;> first | exact h _ _ he | exact hq _ _ _ he | exact he.imp fun _ ⟨w, hx⟩ => ⟨w, hq _ _ _ hx⟩
      | exact hh.mono fun v w'' he => h _ _ he
      | exact hh
  | halt x w' => cases x <;> simp only [Oper.upon] at hh ⊢ <;> first | exact hq _ _ _ hh | exact hh
theorem tC {P : Program} {ops : Array Oper} {R R' : Exit → Act → List Frame → World → Prop} (l : List Nat) (h : ∀ e a cs w, R e a cs w → R' e a cs w) :
    ∀ a cs w, wpOpsS P ops R l a cs w → wpOpsS P ops R' l a cs w := by
  induction l with
  | nil => exact fun a cs w hh => h _ _ _ _ hh
  | cons i rest ih =>
    intro a cs w hh
    simp only [wpOpsS] at hh ⊢
    cases ho : ops[i]? with
    | none => simp only [ho] at hh ⊢; exact ih a cs w hh
    | some o =>
      simp only [ho] at hh ⊢
      by_cases hw : Region.wanted o (yielded ops a.tmps) = true
      · simp only [hw, if_true] at hh ⊢
        generalize (execOp a.eval o).run P w = r at hh ⊢
        split at hh
        · split at hh
          · exact ih _ _ _ hh
          · exact ih _ _ _ hh
        · rename_i r' hnr
          exact vz (fun a w => ih a cs w) (fun e a w => h e a cs w) hh
      · simp only [hw, if_false, Bool.false_eq_true] at hh ⊢
        exact ih _ _ _ hh
def ASR (P : Program) (N : Nat) (ops : Array Oper) (cs : List Frame) (Q : eH) (l : List Nat) (s : St) : Prop :=
  ∀ F I w a, Inv I (s.A ++ F) w → RelS N I w s a → wpOpsS P ops (fun e a' cs' w' => cs' = cs ∧ CQ N F I w Q e a' w') l a cs w
theorem ASR.nil {P : Program} {N : Nat} {ops : Array Oper} {cs : List Frame} {Q : eH} {s : St} (h : Q .normal s) : ASR P N ops cs Q [] s := fun F I w a hI hS =>
  ⟨rfl, I, s, bU _ _, hI, hS, h⟩
theorem ASR.op {P : Program} {N : Nat} {ops : Array Oper} {cs : List Frame} {Q : eH} {i : Nat} {rest : List Nat} {d : Nat} {op : Op} {T : TypeId} {pos : String} {after : Array Edge} {e : Env} {ds : List ADef} {A A' : List Chunk} {av : AV}
    (ho : ops[i]? = some ⟨some d, op, T, pos, after, none⟩) (hd : Nat.blt d N = true) (h : OpR P ⟨some d, op, T, pos, after, none⟩ e A av A') (k : ASR P N ops cs Q rest ⟨(d, av) :: e, ds, A'⟩) :
    ASR P N ops cs Q (i :: rest) ⟨e, ds, A⟩ := fun F I w a hI hS => by
  obtain ⟨n, v, w', I', hrun, hnv, E, hI', hv⟩ := h F I w a.eval hI hS.op
  have hk := k F I' w' (a.put (some d) v) hI' ((hS.mono E).put (ai hd) hv A')
  have hk' := tC (R' := fun e a' cs' w' => cs' = cs ∧ CQ N F I w Q e a' w') rest (fun e a' cs' w' ⟨h1, h2⟩ => ⟨h1, dK E (fun _ _ h => h) h2⟩) _ _ _ hk
  simp only [wpOpsS, ho, Region.wanted, if_true, hrun]
  rcases hnv with rfl | ⟨rfl, rfl⟩ <;> exact hk'
end Go.Av
namespace Go.Av
open Go.RowKit
section
variable {P : Program} {ro : Option Nat} {N : Nat} {Q : eH} {ops : Array Oper}
theorem wB {I : Info} {w : World} {f : Fn} {as_ bs : List AV} {v : Value} (h : Rel I w (.fn f as_ bs) v) : ∃ xs ys : List Value, v = .func f xs.toArray ys.toArray ∧ RelL I w as_ xs ∧ RelL I w bs ys := by
  cases h with
  | fn _ _ _ xs ys hl hr hl' hr' => exact ⟨xs, ys, rfl, ⟨hl, hr⟩, ⟨hl', hr'⟩⟩
def FnV (a : AV) (f : Fn) (as_ bs : List AV) : Prop := a = .fn f as_ bs ∨ (a = .v (.func f #[] #[]) ∧ as_ = [] ∧ bs = [])
theorem rel_fnV {I : Info} {w : World} {a : AV} {f : Fn} {as_ bs : List AV} {v : Value} (h : FnV a f as_ bs) (hr : Rel I w a v) : ∃ xs ys : List Value, v = .func f xs.toArray ys.toArray ∧ RelL I w as_ xs ∧ RelL I w bs ys := by
  rcases h with rfl | ⟨rfl, rfl, rfl⟩
  · exact wB hr
  · exact ⟨[], [], bO hr, eJ, eJ⟩
theorem kz {P : Program} {ρ : Operand → Value} {f : Fn} {xs ys : Array Value} {x : Operand} {args : Array Operand} {argTypes : Array TypeId} {T : TypeId} {w : World} (h : ρ x = .func f xs ys) :
    (resolve ρ ⟨.value x, args, argTypes⟩ T).run P w = .ok { target := .fn f ys, args := xs ++ args.map ρ } w := by
  simp only [resolve, h, Deferred.ofValue, Sem.run_pure]
theorem AO.callF {rest : List Nat} {d : Nat} {x : Operand} {f : FuncId} {fs cs : List AV} {args : Array Operand} {argTypes : Array TypeId} {T : TypeId} {pos : String} {after : Array Edge} {g : Option (Nat × Bool)} {e : Env} {ds : List ADef} {A A1 : List Chunk} (B : List Chunk)
    {R : AE → List Chunk → Prop} {avs : List AV} (hd : Nat.blt d N = true) (hx : FnV (opv e x) (.func f) fs cs) (hf : ∀ args w, (callFunc f args).run P w = .ok (.enter f args) w) (ha : fs ++ args.toList.map (opv e) ++ cs = avs)
    (h : ACalls P f avs A1 R) (p : A.Perm (A1 ++ B)) (k : ∀ av A', R (.ret av) A' → AR P ro N ops Q rest ⟨(d, av) :: e, ds, A' ++ B⟩)
    (kp : ∀ c A', R (.pan c) A' → Q (.panic c) ⟨e, ds, A' ++ B⟩) :
    AO P ro N ops Q rest ⟨some d, .call ⟨.value x, args, argTypes⟩, T, pos, after, g⟩ ⟨e, ds, A⟩ := fun F I w a hI hS => by
  have hS' := hS
  obtain ⟨xs, ys, hv, hxs, hys⟩ := rel_fnV hx (hS'.op x)
  have hrl : RelL I w avs (xs ++ args.toList.map a.eval ++ ys) := by
    rw [← ha]; exact (hxs.append (eK _ _ _ fun x _ => hS'.op x)).append hys
  refine ⟨fun _ _ => dc _, ?_⟩
  have he : (xs.toArray ++ args.map a.eval) ++ ys.toArray = (xs ++ args.toList.map a.eval ++ ys).toArray := by apply Array.ext'; simp
  have hex : (Oper.semAt (dd ro).round a.eval ⟨some d, .call ⟨.value x, args, argTypes⟩, T, pos, after, g⟩).run P w = .ok (.enter f (xs ++ args.toList.map a.eval ++ ys).toArray) w := by
    rw [Oper.semAt_eq _ _ _ (fun c h => by cases h)]
    simp only [execOp, Sem.run_bind, kz hv, Result.andThen_ok, invoke, he]
    exact hf _ _
  rw [hex]
  refine ⟨mS, AO.call.callsIn_wide'.2 ?_⟩
  have hI2 : Inv I (A1 ++ (B ++ F)) w := by rw [← List.append_assoc]; exact hI.perm (p.append_right F)
  refine (h (B ++ F) I w _ hI2 hrl).mono fun en w' ⟨I', ae, A', E, hI', hre, hR⟩ => ?_
  have hI3 : Inv I' ((A' ++ B) ++ F) w' := by rw [List.append_assoc]; exact hI'
  cases en with
  | returned v =>
    cases ae with
    | ret av =>
      have hk := k av A' hR F I' w' (a.put (some d) v) hI3 ((hS.mono E).put (ai hd) hre _)
      exact cG rest (fun _ _ _ => dK E fun _ _ h => h) _ _ hk
    | pan c => exact hre.elim
  | panicked c =>
    cases ae with
    | ret av => exact hre.elim
    | pan c' =>
      cases hre
      exact ⟨I', ⟨e, ds, A' ++ B⟩, E, hI3, ⟨hS.size, (hS.mono E).env, (hS.mono E).ds⟩, kp _ A' hR⟩
  | outgrown => cases ae <;> exact hre.elim
theorem AO.callFp {rest : List Nat} {d : Nat} {x : Operand} {f : FuncId} {fs cs : List AV} {args : Array Operand} {argTypes : Array TypeId} {T : TypeId} {pos : String} {after : Array Edge} {g : Option (Nat × Bool)} {e : Env} {ds : List ADef} {A : List Chunk}
    {avs : List AV} {v : AV} (hd : Nat.blt d N = true) (hx : FnV (opv e x) (.func f) fs cs) (hf : ∀ args w, (callFunc f args).run P w = .ok (.enter f args) w) (ha : fs ++ args.toList.map (opv e) ++ cs = avs)
    (h : ACalls P f avs [] (Ret v [])) (k : AR P ro N ops Q rest ⟨(d, v) :: e, ds, A⟩) :
    AO P ro N ops Q rest ⟨some d, .call ⟨.value x, args, argTypes⟩, T, pos, after, g⟩ ⟨e, ds, A⟩ :=
  AO.callF A hd hx hf ha h (bq _) (fun av A' ⟨h1, h2⟩ => by cases h1; subst h2; exact k) (fun c A' ⟨h1, _⟩ => by cases h1)
theorem AO.callFAt {rest : List Nat} {d : Nat} {x : Operand} {f : FuncId} {fs cs : List AV} {args : Array Operand} {argTypes : Array TypeId} {T : TypeId} {pos : String} {after : Array Edge} {g : Option (Nat × Bool)} {e : Env} {ds : List ADef} {A A1 B : List Chunk}
    {R : AE → List Chunk → Prop} {avs : List AV} (is : List Nat) (hd : Nat.blt d N = true) (hx : FnV (opv e x) (.func f) fs cs) (hf : ∀ args w, (callFunc f args).run P w = .ok (.enter f args) w) (ha : fs ++ args.toList.map (opv e) ++ cs = avs)
    (h : ACalls P f avs A1 R) (p : kT A is = some (A1, B)) (hr : ∀ c A', ¬ R (.pan c) A') (k : ∀ av A', R (.ret av) A' → AR P ro N ops Q rest ⟨(d, av) :: e, ds, A' ++ B⟩) :
    AO P ro N ops Q rest ⟨some d, .call ⟨.value x, args, argTypes⟩, T, pos, after, g⟩ ⟨e, ds, A⟩ :=
  AO.callF B hd hx hf ha h (ee is _ _ _ p) k (fun c A' h => (hr c A' h).elim)
theorem AO.defer {rest : List Nat} {x : Operand} {f : Fn} {fs cs : List AV} {args : Array Operand} {argTypes : Array TypeId} {T : TypeId} {pos : String} {after : Array Edge} {g : Option (Nat × Bool)} {e : Env} {ds : List ADef} {A : List Chunk}
    (hx : opv e x = .fn f fs cs) (k : AR P none N ops Q rest ⟨e, .call f cs (fs ++ args.toList.map (opv e)) :: ds, A⟩) :
    AO P none N ops Q rest ⟨none, .defer ⟨.value x, args, argTypes⟩, T, pos, after, g⟩ ⟨e, ds, A⟩ := fun F I w a hI hS => by
  have hS' := hS
  obtain ⟨xs, ys, hv, hxs, hys⟩ := wB (hx ▸ hS'.op x);refine ⟨fun _ _ => dc _, ?_⟩
  have hex : (Oper.semAt (dd none).round a.eval ⟨none, .defer ⟨.value x, args, argTypes⟩, T, pos, after, g⟩).run P w = .ok (.defer { target := .fn f ys.toArray, args := (xs ++ args.toList.map a.eval).toArray }) w := by
    rw [show (dd none).round = none from rfl, Oper.semAt_none]
    simp only [execOp, Sem.run_bind, kz hv, Result.andThen_ok, Sem.run_pure]
    congr 2
    congr 1
    apply Array.ext'; simp
  rw [hex]
  exact k F I w _ hI ⟨hS.size, hS.env, .cons (.call f cs _ ys _ hys (hxs.append (eK _ _ _ fun x _ => hS'.op x))) hS.ds⟩
mutual
def conc : AV → Option Value
  | .v x => some x
  | .ifc t a => (conc a).map (.iface t)
  | .agg l => (concL l).map fun l => .agg l.toArray
  | _ => none
def concL : List AV → Option (List Value)
  | [] => some []
  | a :: l => match conc a, concL l with
    | some x, some r => some (x :: r)
    | _, _ => none
end
mutual
theorem conc_rel {I : Info} {w : World} : ∀ (a : AV) (x v : Value), conc a = some x → Rel I w a v → v = x
  | .v y, x, v, h, hr => by cases h; cases hr; rfl
  | .ifc t a, x, v, h, hr => by
    simp only [conc, Option.map_eq_some_iff] at h
    obtain ⟨y, hy, rfl⟩ := h
    cases hr with
    | ifc _ _ z hz => rw [conc_rel a y z hy hz]
  | .agg l, x, v, h, hr => by
    simp only [conc, Option.map_eq_some_iff] at h
    obtain ⟨y, hy, rfl⟩ := h
    cases hr with
    | agg _ xs hl hr => rw [concL_rel l y xs hy ⟨hl, hr⟩]
  | .sl .., _, _, h, _ | .cp .., _, _, h, _ | .pt .., _, _, h, _ | .vw .., _, _, h, _ | .tup .., _, _, h, _ | .fn .., _, _, h, _ | .any, _, _, h, _ | .anyk .., _, _, h, _ | .anyi, _, _, h, _ | .mp .., _, _, h, _ | .rp .., _, _, h, _ | .mk .., _, _, h, _ | .yl .., _, _, h, _ => by simp [conc] at h
theorem concL_rel {I : Info} {w : World} : ∀ (l : List AV) (xs vs : List Value), concL l = some xs → RelL I w l vs → vs = xs
  | [], xs, vs, h, hr => by simp only [concL, Option.some.injEq] at h; rw [hr.out_nil, h]
  | a :: l, xs, vs, h, hr => by
    obtain ⟨v, vs', rfl, h1, h2⟩ := hr.out_cons
    simp only [concL] at h
    split at h
    · rename_i x r hx hrr
      cases h
      rw [conc_rel a x v hx h1, concL_rel l r vs' hrr h2]
    · cases h
end
theorem AO.panic {rest : List Nat} {d : Option Nat} {x : Operand} {t : TypeId} {v : Value} {T : TypeId} {pos : String} {after : Array Edge} {g : Option (Nat × Bool)} {e : Env} {ds : List ADef} {A : List Chunk}
    (hx : conc (opv e x) = some (.iface t v)) (k : Q (.panic [{ v := .iface t v, recovered := false }]) ⟨e, ds, A⟩) :
    AO P ro N ops Q rest ⟨d, .panic x, T, pos, after, g⟩ ⟨e, ds, A⟩ := fun F I w a hI hS => by
  have hv := conc_rel _ _ _ hx (hS.op x)
  refine ⟨fun _ _ => dc _, ?_⟩
  have hex : (Oper.semAt (dd ro).round a.eval ⟨d, .panic x, T, pos, after, g⟩).run P w = .halt (.panic (.iface t v)) w := by
    rw [Oper.semAt_eq _ _ _ (fun c h => by cases h)]
    simp only [execOp, hv, Instr.panic, Sem.run_bind]
    rfl
  rw [hex]
  exact ⟨I, ⟨e, ds, A⟩, bU _ _, hI, hS, k⟩
end
end Go.Av
namespace Go.Av
open Go.RowKit
section
variable {H : Type} {enc : TypeId × Value → H}
theorem returns_and_shaped {a : Assume} {C : Checked} {os : Os} {f : FuncId} {fn : Func} {s : ChangeSpec} {conds : List PathCond} {apart fresh handsOn again : Bool} {X : World → Array Value → Prop}
    (hX : ∀ (w w' : World) (args : Array Value), w.heap = w'.heap → X w args → X w' args)
    (own : ownKnob C.prog.godebug = none) (started : os.Started) (noInit : C.prog.inits.idxOf? f = none) (hfn : C.prog.funcs[f]? = some fn)
    (witness : ∃ (w : World) (tape : Tape) (i : Input), w.os = os ∧ (w.forCall tape i).Shaped C.prog ∧ i.vars = [] ∧ Input.okWide C.prog (w.forCall tape i) .any w.heap.size f i ∧
      ((s.pre enc C.prog fn conds apart (w.forCall tape i).memory i.args ∧ X (w.forCall tape i).memory i.args) ∧ sizedMet enc C.prog fn (OpenSpec.ofChange s) apart (w.forCall tape i).memory i.args) ∧ a.holds C.prog (lone (Frame.enter C.prog f i.args .normal) [] (w.forCall tape i)))
    (contract : ∀ (W : World) (base : Nat) (args : Array Value) (ds gs : List (DataW H)) (before : List MemPlace),
      (∀ (j : Nat) t v, fn.params[j]? = some t → args[j]? = some v → Value.okWide C.prog W .any base t v) →
      DataW.Whole enc C.prog fn.params.toList s.vars apart W args.toList ds gs before →
      W.ShapedOpen C.prog → X W args →
      Calls C.prog f args W fun e W' => ∃ v, e = .returned v ∧ s.post enc C.prog fn apart fresh handsOn again W args v W') :
    ReturnsInHanded a C os f .any (fun w args => (s.pre enc C.prog fn conds apart w args ∧ X w args) ∧ sizedMet enc C.prog fn (OpenSpec.ofChange s) apart w args) (s.post enc C.prog fn apart fresh handsOn again) := by
  refine returnsInHanded_of_calls own started noInit witness ?_;intro w tape i _ hsh _ hok hpre hholds;obtain ⟨_, _, _, fn', hfn', _, _, _, _, hval⟩ := hok
  have e : fn' = fn := ap (hfn'.symm.trans hfn)
  subst e;obtain ⟨⟨⟨ds, gs, before, hw, hc⟩, hx⟩, hz⟩ := hpre
  have hw' := DataW.Whole.of_heap (w' := w.forCall tape i) (by rfl) hw
  refine (contract (w.forCall tape i) w.heap.size i.args ds gs before hval hw' hsh (hX _ _ _ (by rfl) hx)).mono fun e W' ⟨v, he, hp⟩ => ?_
  subst he;exact ChangeSpec.post_blind hp
end
theorem vb {P : Program} {w : World} {n : String} {d : DataW Unit} : ∀ {l : List (String × DataW Unit)} {ps : List MemPlace}, DataW.LaidVars P w l ps → (n, d) ∈ l →
    ∃ g t cs fuel p, P.globalNamed n = some g ∧ (P.globals[g]?).map (·.type) = some t ∧ w.var? P n = some cs ∧ DataW.trod (fun _ => ()) P w 0 (fun _ => true) false fuel t cs.toList = some (d, p)
  | [], _, _, hm => by cases hm
  | (n', d') :: r, ps, h, hm => by
    obtain ⟨g, t, cs, fuel, p, q, h1, h2, h3, h4, h5, _⟩ := h
    rcases List.mem_cons.1 hm with hm | hm
    · cases hm; exact ⟨g, t, cs, fuel, p, h1, h2, h3, h4⟩
    · exact vb h5 hm
theorem rK {H : Type} {tok : TypeId × Value → H} {P : Program} {w : World} {base : Nat} {fits : Nat → Bool} {b : Bool} {fuel t : Nat} {vs : List Value} {r : DataW H × List MemPlace} {ms : Array (String × TypeId)} (hT : P.underlying t = some (.interface ms))
    (h : DataW.trod tok P w base fits b fuel t vs = some r) : vs = [.nilIface] ∨ ∃ u v, vs = [.iface u v] := by
  cases fuel with
  | zero => simp [DataW.trod] at h
  | succ n =>
    unfold DataW.trod at h
    rw [hT] at h
    split at h <;> first | (exact .inl rfl) | (exact .inr ⟨_, _, rfl⟩) | simp_all
theorem laid_iface {P : Program} {w : World} {l : List (String × DataW Unit)} {n : String} {d : DataW Unit} {g t : Nat} {ms : Array (String × TypeId)} (h : laidMet P l w) (hm : (n, d) ∈ l) (hg : P.globalNamed n = some g) (ht : (P.globals[g]?).map (·.type) = some t) (hT : P.underlying t = some (.interface ms)) : ∃ v, w.cell? ⟨g, 0, none⟩ = some v ∧ (v = .nilIface ∨ ∃ u y, v = .iface u y) := by
  obtain ⟨ps, hl, _, _⟩ := h;obtain ⟨g', t', cs, fuel, p, h1, h2, h3, h4⟩ := vb hl hm;obtain rfl := ap (hg.symm.trans h1);obtain rfl := ap (ht.symm.trans h2)
  have hc := World.var?_cell hg h3 0
  rcases rK hT h4 with h5 | ⟨u, v, h5⟩
  · exact ⟨.nilIface, by rw [hc]; have := congrArg (·[0]?) h5; simpa using this, .inl rfl⟩
  · exact ⟨.iface u v, by rw [hc]; have := congrArg (·[0]?) h5; simpa using this, .inr ⟨u, v, rfl⟩⟩
theorem rel_var {w : World} {g : Nat} {v : Value} {c : AV} (h : w.cell? ⟨g, 0, none⟩ = some v) (hr : Rel (Info.start w) w c v) : Rel (Info.start w) w (.cp [c]) (.pointer (some ⟨g, 0, none⟩)) := by
  refine .cp [c] g 0 (fun _ => v) (qx (wS h).1) (fun j hj => ?_) (fun j hj => ?_)
  · have : j = 0 := by simpa using hj
    subst this; exact h
  · have : j = 0 := by simpa using hj
    subst this; exact hr
theorem rel_anyi {I : Info} {w : World} {v : Value} (h : v = .nilIface ∨ ∃ u y, v = .iface u y) : Rel I w .anyi v := by
  rcases h with rfl | ⟨u, y, rfl⟩
  · exact .anyi0
  · exact .anyi1 u y
end Go.Av
namespace Go.Av
open Go.RowKit Go.Pv
def pan1 (v : Value) : List PanicEntry := [{ v := v, recovered := false }]
section
variable {P : Program} {ro : Option Nat} {N : Nat} {Q : eH} {ops : Array Oper}
def ALR (P : Program) (ro : Option Nat) (N : Nat) (c : Code) (Q : eH) : Nat → St → Prop
  | 0, _ => False
  | m + 1, s => AW P ro N c (Then (ALR P ro N c Q m) Q) s
theorem ALR.sound {c : Code} {F : List Chunk} {I0 : Info} {w0 : World} : ∀ (m : Nat) (s : St) (I : Info) (w : World) (a : Act), Ext I0 w0 I w → Inv I (s.A ++ F) w → RelS N I w s a → ALR P ro N c Q m s →
    Code.roundsIn (dd ro) 0 P c (CQ N F I0 w0 Q) m a w := by
  intro m
  induction m with
  | zero => intro s I w a _ _ _ h; exact h.elim
  | succ m ih =>
    intro s I w a E hI hS h
    refine wpIn_mono (h F I w a hI hS) fun e a' w' hq => ?_
    obtain ⟨I', s', E', hI', hS', hq⟩ := hq
    cases e with
    | normal => exact ih s' I' w' a' (E.trans E') hI' hS' hq
    | _ => exact ⟨I', s', E.trans E', hI', hS', hq⟩
theorem pn (m : Nat) {c : Code} {s : St} (h : ALR P ro N c Q m s) : AW P ro N (.loop c) Q s := fun F I w a hI hS =>
  wpIn_loop_rounds m (ALR.sound m s I w a (bU _ _) hI hS h)
variable {e : Env} {d : Option Nat} {T : TypeId} {pos : String} {after : Array Edge} {g : Option (Nat × Bool)} {x : Operand}
def CellV (P : Program) (e : Env) (A : List Chunk) (a t : Nat) (av : AV) : Prop := ∀ F I w v, Inv I (A ++ F) w → Rel I w (ev e a) v → ∃ p x, (asAddr v).run P w = .ok p w ∧ (loadVar t p).run P w = .ok x w ∧ Rel I w av x
theorem CellV.one {e : Env} {A : List Chunk} {a t o off : Nat} (i : Nat) {cs : List AV} {c : AV} {D : TypeDesc} (hT : P.underlying t = some D) (hD : jw D = false) (hx : ev e a = .pt o off) (hA : A[i]? = some (.obj o cs)) (hc : cs[off]? = some c) : CellV P e A a t c := fun F I w v hI hv => by
  rw [hx] at hv
  cases hv with
  | pt o off b ho =>
    obtain ⟨b', arr, ho', he, hca, hrl⟩ := hI.holds _ (gY hA F)
    rw [ho] at ho'; cases ho'
    have hlt : off < cs.length := (List.getElem?_eq_some_iff.1 hc).1
    have hlt' : off < arr.length := by rw [hrl.1]; exact hlt
    have h0 : w.cell? ⟨b, off, none⟩ = some (arr.getD off undef) := by rw [hca.cell]; simp [List.getD, hlt']
    have hr := hrl.2 off hlt
    rw [(List.getElem?_eq_some_iff.1 hc).2] at hr
    refine ⟨⟨b, off, none⟩, _, rfl, ?_, hr⟩
    simp only [loadVar, Sem.run_bind, jx hT hD, Result.andThen_ok, Bool.false_eq_true, if_false, run_load, h0]
theorem CellV.agg {e : Env} {A : List Chunk} {a t o off n : Nat} (i : Nat) {cs : List AV} {D : TypeDesc} (hT : P.underlying t = some D) (hD : jw D = true) (hsz : bH P t = some n) (hx : ev e a = .pt o off) (hA : A[i]? = some (.obj o cs)) (hn : off + n ≤ cs.length) : CellV P e A a t (.agg ((cs.drop off).take n)) := fun F I w v hI hv => by
  rw [hx] at hv
  cases hv with
  | pt o off b ho =>
    obtain ⟨b', arr, ho', he, hca, hrl⟩ := hI.holds _ (gY hA F)
    rw [ho] at ho'; cases ho'
    have hl : (loadCells ⟨b, off, none⟩ n).run P w = .ok ((List.range n).map fun j => arr.getD (off + j) undef).toArray w := run_loadCells w _ n _ (fun j hj => by
      rw [cu, hca.cell, aK (by rw [hrl.1]; omega)]
      simp [List.getD, show off + j < arr.length by rw [hrl.1]; omega])
    refine ⟨⟨b, off, none⟩, _, rfl, ?_, .agg _ ((List.range n).map fun j => arr.getD (off + j) undef) (by simp; omega) (fun j hj => ?_)⟩
    · simp only [loadVar, jx hT hD, if_true, bM hsz, hl, Sem.run_bind, Sem.run_pure, Result.andThen_ok]
    · have hj' : j < n := by simp at hj; omega
      have h1 := hrl.2 (off + j) (by omega)
      simp only [List.getElem_take, List.getElem_drop, List.getD, List.getElem?_map, List.getElem?_range hj', Option.map_some, Option.getD_some]
      simpa [List.getD] using h1
theorem mK {fn : Func} {e : Env} {ds : List ADef} {A : List Chunk} {av : AV} (h : ResT P fn N e A av) : ResV P fn N ⟨e, ds, A⟩ av := fun F I w a hI hS => h F I w a.tmps hI hS.size hS.env
theorem ng {fn : Func} {e : Env} {R : AE → List Chunk → Prop} {g : FuncId} {cap args : List AV} {ds : List ADef} {u u1 : FrameMode} {A A1 B A2 : List Chunk} {v : AV} (is : List Nat) (hu : u ≠ .run) (hf : ∀ as_ w, (callFunc g as_).run P w = .ok (.enter g as_) w)
    (p : kT A is = some (A1, B)) (h : ADCalls P g (args ++ cap) A1 u fun ae u' A' => ae = .ret v ∧ u' = u1 ∧ A' = A2) (k : ALeaves P fn N e R ds (settle u1) (A2 ++ B)) :
    ALeaves P fn N e R (.call (.func g) cap args :: ds) u A := by
  refine ⟨hu, g, A1, B, rfl, hf, ee is _ _ _ p, fun F I w vs hI hv => ?_⟩;intro c cs hc;obtain ⟨en, u', w', fr, hq, h1, h2, h3⟩ := h F I w vs hI hv c cs hc;refine ⟨en, u', w', fr, ?_, h1, h2, h3⟩;obtain ⟨I', ae, A', E, hI', hre, rfl, rfl, rfl⟩ := hq;exact ⟨I', _, _, E, hI', hre, k⟩
theorem ADCalls.of_body {f : FuncId} {fn : Func} {c : Code} {args : List AV} {A : List Chunk} {u : FrameMode} {R : AE → FrameMode → List Chunk → Prop} (hf : P.funcs[f]? = some fn) (hb : fn.body = some c) (hl : Nat.ble args.length fn.ntmps = true)
    (h : AW P none fn.ntmps c (cK P fn fn.ntmps fun ae A' => R ae u A') ⟨kS 0 args, [], A⟩) : ADCalls P f args A u R := fun F I w vs hI hv => by
  refine callsD_of_wpS hf hb fun c₀ cs hu => ?_
  refine wpS_of_wp ((wpIn_wide (n := 0)).1 (wpIn_mono (h F I w _ hI (pg hv (ai hl))) fun e a w' hq => ?_));obtain ⟨I', s', E, hI', hS', hq⟩ := hq
  have hc : c₀ :: cs = { c₀ with mode := u } :: cs := by subst hu; rfl
  cases e with
  | normal =>
    obtain ⟨hds, av, A', hres, hsub, hR⟩ := hq;obtain ⟨v, hrun, hv⟩ := hres F I' w' a hI' hS';exact ⟨eG (hds ▸ hS'.ds), u, hc, v, hrun, I', .ret av, A', E, hsub.inv hI', hv, hR⟩
  | ret =>
    obtain ⟨hds, av, A', hres, hsub, hR⟩ := hq;obtain ⟨v, hrun, hv⟩ := hres F I' w' a hI' hS';exact ⟨eG (hds ▸ hS'.ds), u, hc, v, hrun, I', .ret av, A', E, hsub.inv hI', hv, hR⟩
  | panic c =>
    obtain ⟨hds, A', hsub, hR⟩ := hq;exact ⟨eG (hds ▸ hS'.ds), u, hc, I', .pan c, A', E, hsub.inv hI', rfl, hR⟩
  | exit id => exact hq.elim
  | goto l => exact hq.elim
  | outgrown => exact hq.elim
def Recovers (u : FrameMode) (v : Value) (u' : FrameMode) : Prop := (∃ older, u = .panicking ({ v := v, recovered := false } :: older) ∧ u' = .panicking ({ v := v, recovered := true } :: older)) ∨ (u = .returning ∧ v = .nilIface ∧ u' = .returning)
theorem Recovers.pan {v : Value} : Recovers (.panicking (pan1 v)) v (.panicking [{ v := v, recovered := true }]) := .inl ⟨[], rfl, rfl⟩
theorem Recovers.ret : Recovers .returning .nilIface .returning := .inr ⟨rfl, rfl, rfl⟩
end
end Go.Av
namespace Go.Av
open Go.RowKit Go.Pv
section
variable {α : Type} {E : Enc α}
theorem fl_get (hk : E.k = 1) : ∀ (l : List α) (m : Nat) (h : m < l.length), (E.fl l)[m]? = (E.f l[m])[0]?
  | [], m, h => by simp at h
  | x :: l, 0, h => by
    rw [dQ]
    have := E.len x
    rw [List.getElem?_append_left (by omega)]; rfl
  | x :: l, m + 1, h => by
    rw [dQ]
    have := E.len x
    rw [List.getElem?_append_right (by omega), show m + 1 - (E.f x).length = m by omega, fl_get hk l m (by simpa using h)]
    rfl
end
section
variable {P : Program} {e : Env} {d : Option Nat} {T T2 : TypeId} {pos : String} {after : Array Edge} {g : Option (Nat × Bool)} {x y z : Operand} {av : AV} {A : List Chunk}
theorem uc {α : Type} {E : Enc α} {n : Int} {zv : α} {z0 : Value} {El bytes : Nat} (hT : P.underlying T = some (.slice El)) (hE : cH P El = some (1, bytes)) (hz : zeroCells P El = some [z0]) (hk : E.k = 1) (hb : Nat.ble bytes 1000 = true) (hzv : E.f zv = [.v z0])
    (hx : opv e x = i64 n) (hy : opv e y = i64 n) (hg : cD n 1000000000 = true) :
    OpX P ⟨d, .makeSlice T x y, T2, pos, after, g⟩ e A (fun av A' => ∃ o, av = .vw o 0 n.toNat n.toNat ∧ A' = .obj o (E.fl (List.replicate n.toNat zv) ++ List.replicate 0 .any) :: A) := fun F I w ρ hI hρ => by
  obtain ⟨h1, h2⟩ := nR hg;obtain ⟨i, zz, hi, hzz, hs1, hs2, hs3⟩ := dZ hE
  have hz' : zz.cells.toList = [z0] := by
    unfold zeroCells at hz
    rw [hi] at hz
    simp only [Option.bind_some, hzz, Option.map_some, Option.some.injEq] at hz
    exact hz
  have hza : zz.cells = #[z0] := by rw [← Array.toList_inj, hz']
  have ex := bO (hx ▸ hρ x)
  have ey := bO (hy ▸ hρ y)
  have hbl : bytes ≤ 1000 := ai hb
  have hbb : (i.bytes : Int) * n ≤ 281474976710656 := by
    rw [hs3]
    have h3 : (bytes : Int) * n ≤ 1000 * n := Int.mul_le_mul_of_nonneg_right (by omega) h1
    omega
  have hrun := run_make (P := P) w T El i zz hT hi hzz .i64 .i64 n n h1 (Int.le_refl _) hbb (by omega)
  obtain ⟨o, ho⟩ := hI.fresh_obj
  have hcells : madeCells zz.cells (n.toNat * i.size) = (List.replicate n.toNat z0).toArray := by
    rw [hs2, Nat.mul_one, hza]
    unfold madeCells
    apply Array.ext'
    simp only [Array.toList_map, Array.toList_range]
    apply List.ext_getElem
    · simp
    · intro j h1 h2; simp [Nat.mod_one]
  rw [hcells] at hrun
  have hrl : RelL I w (E.fl (List.replicate n.toNat zv) ++ List.replicate 0 .any) (List.replicate n.toNat z0) := by
    have : E.fl (List.replicate n.toNat zv) = (List.replicate n.toNat z0).map AV.v := by
      generalize n.toNat = m
      induction m with
      | zero => rfl
      | succ m ih => rw [List.replicate_succ, dQ, hzv, ih, List.replicate_succ]; rfl
    rw [this, List.replicate_zero, List.append_nil]
    exact jy _
  refine ⟨_, .slice (some ⟨w.heap.size, 0, none⟩) n.toNat n.toNat, _, _, _, _, ?_, .inl rfl, hI.new_obj ho _, hI.alloc_obj ho El hrl, .vw o 0 _ _ _ (by simp [Info.putObj]), o, rfl, rfl⟩
  simp only [execOp, ex, ey, Sem.run_bind, hrun, Result.andThen_ok, Sem.run_pure]
theorem jm {f : Fn} {first captured : Array Operand} {as_ bs : List AV} (h1 : first.toList.map (opv e) = as_) (h2 : captured.toList.map (opv e) = bs) : OpS P ⟨d, .makeFunc f first captured, T2, pos, after, g⟩ e (.fn f as_ bs) := fun I w ρ hρ => by
  have r1 : RelL I w as_ (first.toList.map ρ) := by rw [← h1]; exact eK _ _ _ fun x _ => hρ x
  have r2 : RelL I w bs (captured.toList.map ρ) := by rw [← h2]; exact eK _ _ _ fun x _ => hρ x
  refine ⟨.func f (first.map ρ) (captured.map ρ), ?_, fun w' _ _ => rfl⟩
  have := Rel.fn (I := I) (w := w) f as_ bs _ _ r1.1 r1.2 r2.1 r2.2
  rwa [show (first.toList.map ρ).toArray = first.map ρ by apply Array.ext'; simp, show (captured.toList.map ρ).toArray = captured.map ρ by apply Array.ext'; simp] at this
end
end Go.Av
namespace Go.Av
open Go.RowKit Go.Pv
section
variable {P : Program} {e : Env} {d : Option Nat} {T T2 : TypeId} {pos : String} {after : Array Edge} {g : Option (Nat × Bool)} {x y z : Operand} {av : AV} {A : List Chunk}
theorem jz {a : AV} (hx : opv e x = a) (hc : cP a = true ∨ ∃ cs, a = .agg cs) : OpR P ⟨d, .box T x, T2, pos, after, g⟩ e A (.cp (cellsOf a)) A := fun F I w ρ hI hρ => by
  have hv := hx ▸ hρ x
  have hrl := kU hv hc
  have X := hI.new_still (.cells (ρ x).cells.toList.toArray T)
  refine ⟨_, .pointer (some ⟨w.heap.size, 0, none⟩), _, _, ?_, .inl rfl, X, hI.alloc_still _, ?_⟩
  · simp only [execOp, Instr.box, newVar, newRow, Sem.run_bind, Sem.run_pure, run_newObj_alloc, Result.andThen_ok]
  · refine .cp _ w.heap.size 0 (fun j => (ρ x).cells.toList.getD j undef) (fun m hm => by simp [Info.still] at hm) (fun j hj => ?_) (fun j hj => (hrl.2 j hj).mono X)
    have hj' : j < (ρ x).cells.toList.length := by rw [hrl.1]; exact hj
    have hh := cc w (.cells (ρ x).cells.toList.toArray T)
    simp only [World.cell?, hh, Nat.zero_add]
    have hj2 : j < (ρ x).cells.size := by simpa using hj'
    simp [List.getD, hj2]
theorem Inv.freezeCp {I : Info} {A : List Chunk} {w : World} {o : Nat} {cs : List AV} (h : Inv I (.obj o cs :: A) w) : ∃ I', Ext I w I' w ∧ Inv I' A w ∧ ∀ v, Rel I w (.pt o 0) v → Rel I' w (.cp cs) v := by
  obtain ⟨b, arr, ho, he, hca, hrl⟩ := h.holds _ (List.mem_cons_self ..)
  have hbl : (Chunk.obj o cs).blk I = some b := ho
  have E : Ext I w (I.stillN b cs.length) w := by
    refine ⟨rfl, rfl, rfl, Nat.le_refl _, fun b' hb' => ⟨rfl, ?_⟩, fun _ _ _ => rfl, fun b' m hs => ?_, fun _ _ x => x, fun _ _ x => x, fun _ _ x => x⟩
    · simp only [Info.stillN]
      rw [if_neg]
      · exact hb'
      · rintro rfl; rw [he] at hb'; cases hb'
    · intro q hq
      simp only [Info.stillN] at hq
      by_cases e : b' = b
      · subst e
        have := hs 0 he
        omega
      · rw [if_neg e] at hq; exact hs q hq
  refine ⟨I.stillN b cs.length, E, ?_, ?_⟩
  · have hA : Inv I A w := h.sub (List.sublist_cons_self ..)
    refine hA.keep E (fun c hc b' hb' => ⟨rfl, ?_⟩) (fun b' hb' => ?_) h.ids
    · simp only [Info.stillN]; rw [if_neg (h.other hbl c hc b' hb')]
    · have hlt := hca.lt
      simp only [Info.stillN]; rw [if_neg (by omega)]; exact h.fresh b' hb'
  · intro v hv
    cases hv with
    | pt o off b' ho' =>
      rw [ho] at ho'; cases ho'
      have hlen : arr.length = cs.length := hrl.1
      refine .cp _ b 0 (fun j => arr.getD j undef) ?_ ?_ ?_
      · intro q hq
        simp only [Info.stillN, if_true, Option.some.injEq] at hq
        omega
      · intro j hj
        rw [Nat.zero_add, hca.cell, List.getD, aK (by omega)]; rfl
      · intro j hj
        exact (hrl.2 j hj).mono E
end
section
variable {P : Program} {ro : Option Nat} {N : Nat} {Q : eH} {ops : Array Oper} {rest : List Nat} {e : Env} {ds : List ADef} {A : List Chunk}
theorem AR.freezeCp {o : Nat} {cs : List AV} (t i : Nat) (ht : ev e t = .pt o 0) (hA : A[i]? = some (.obj o cs)) (h : AR P ro N ops Q rest ⟨(t, .cp cs) :: e, ds, A.eraseIdx i⟩) : AR P ro N ops Q rest ⟨e, ds, A⟩ := fun F I w a hI hS => by
  have hp := mR A i _ hA
  have hI2 : Inv I (.obj o cs :: (A.eraseIdx i ++ F)) w := hI.perm (hp.append_right F)
  obtain ⟨I', X, hI', hrel⟩ := hI2.freezeCp
  have hS' := hS.mono X
  refine cG rest (fun _ _ _ => dK X fun _ _ h => h) _ _ (h F I' w a hI' ⟨hS.size, fun j => ?_, hS'.ds⟩)
  have hj := hS'.env j
  simp only [ev]
  cases hb : Nat.beq t j with
  | false => exact hj
  | true =>
    have := Nat.eq_of_beq_eq_true hb
    subst this
    have hj0 := hS.env t
    simp only [ht] at hj0
    exact hrel _ hj0
end
section
variable {P : Program} {e : Env} {d : Option Nat} {T T2 : TypeId} {pos : String} {after : Array Edge} {g : Option (Nat × Bool)} {x y z : Operand} {av : AV} {A : List Chunk}
inductive WvL : List AV → List AV → Prop where
  | nil : WvL [] []
  | cons {a b : AV} {l m : List AV} (h : Wv a b) (g : WvL l m) : WvL (a :: l) (b :: m)
theorem WvL.refl : ∀ l, WvL l l
  | [] => .nil
  | a :: l => .cons (.refl a) (WvL.refl l)
theorem WvL.rel {I : Info} {w : World} : ∀ {l m : List AV} {xs : List Value}, WvL l m → RelL I w l xs → RelL I w m xs
  | _, _, _, .nil, h => h
  | _, _, _, .cons h g, hr => by
    obtain ⟨x, xs, rfl, h1, h2⟩ := hr.out_cons;exact cX (h.rel h1) (g.rel h2)
end
section
variable {P : Program}
end
section
variable {P : Program} {e : Env} {d : Option Nat} {T T2 T' : TypeId} {pos : String} {after : Array Edge} {g : Option (Nat × Bool)} {x y z : Operand}
theorem dn {α : Type} [Inhabited α] {E : Enc α} {post : List AV} {l : List α} {len El : Nat} {q : IntKind} {i : Int} {v : α} {c : AV} (hk : E.k = 1) (hT : P.underlying T = some (.array len El)) (hsz : bH P El = some 1) (hx : opv e x = .cp (E.fl l ++ post)) (hy : opv e y = .v (.int q i)) (hll : Nat.beq l.length len = true)
    (hg : cD i len = true) (he : at_ l i = v) (hc : E.f v = [c]) : OpS P ⟨d, .indexAddr T x y, T2, pos, after, g⟩ e (.cp [c]) := fun I w ρ hρ => by
  obtain ⟨h1, h2⟩ := nR hg
  have hll' := Nat.eq_of_beq_eq_true hll
  have hlt : i.toNat < l.length := by omega
  have hfl : (E.fl l).length = l.length := by rw [E.fl_length, hk, Nat.mul_one]
  have := lR (P := P) (d := d) (pos := pos) (after := after) (g := g) (T2 := T2) (m := i.toNat) hT hsz hx hy (Int.toNat_of_nonneg h1).symm (by omega) (by simp [hfl]; omega)
  obtain ⟨u, hu, hw⟩ := this I w ρ hρ;refine ⟨u, ?_, hw⟩
  have e1 : v = l[i.toNat] := by
    have := gz (l := l) hlt
    rw [Int.toNat_of_nonneg h1] at this
    rw [← he, this]
  have e2 : (E.fl l ++ post)[i.toNat]? = some c := by
    rw [List.getElem?_append_left (by omega), fl_get hk l _ hlt, ← e1, hc]; rfl
  obtain ⟨hlt2, e3⟩ := List.getElem?_eq_some_iff.1 e2
  cases hu with
  | cp _ b off xs hst hcx hr =>
    have hd : 0 < ((E.fl l ++ post).drop (i.toNat * 1)).length := by simp [hfl]; omega
    refine .cp [c] b off xs (hst.le (by simp [hfl]; omega)) (fun j hj => hcx j (by simp at hj; omega)) (fun j hj => ?_)
    have hj0 : j = 0 := by simp at hj; exact hj
    subst hj0
    have := hr 0 hd
    simpa [e3] using this
end
section
variable {P : Program} {N : Nat} {fn : Func} {e : Env} {A : List Chunk} {av bv cv : AV}
def PlaceV (P : Program) (e : Env) (A : List Chunk) : ResultVar → AV → Prop
  | .tmp t, av => Wv (ev e t) av
  | .cell a t, av => CellV P e A a t av
def qT (tmps : Array Value) : ResultVar → Sem Value
  | .tmp t => pure (tmps.getD t undef)
  | .cell a t => do loadVar t (← asAddr (tmps.getD a undef))
theorem PlaceV.run {r : ResultVar} (h : PlaceV P e A r av) {F : List Chunk} {I : Info} {w : World} {tmps : Array Value} (hI : Inv I (A ++ F) w) (ht : ∀ t, Rel I w (ev e t) (tmps.getD t undef)) : ∃ x, (qT tmps r).run P w = .ok x w ∧ Rel I w av x := by
  cases r with
  | tmp t => exact ⟨_, rfl, Wv.rel h (ht t)⟩
  | cell a t =>
    obtain ⟨p, x, h1, h2, h3⟩ := h F I w _ hI (ht a);exact ⟨x, by simp only [qT, Sem.run_bind, h1, Result.andThen_ok, h2], h3⟩
theorem mZ (tmps : Array Value) : results fn tmps = (do let vs ← fn.results.mapM (qT tmps); pure (if h : vs.size = 1 then vs[0] else .tuple vs)) := by
  unfold results
  congr 1
theorem uP {r : ResultVar} (hr : fn.results = #[r]) (h : PlaceV P e A r av) : ResT P fn N e A av := fun F I w tmps hI hs ht => by
  obtain ⟨x, h1, h2⟩ := h.run hI ht;refine ⟨x, ?_, h2⟩
  rw [mZ, hr]
  simp [h1]
theorem mq {r q : ResultVar} (hr : fn.results = #[r, q]) (h : PlaceV P e A r av) (g : PlaceV P e A q bv) : ResT P fn N e A (.tup [av, bv]) := fun F I w tmps hI hs ht => by
  obtain ⟨x, h1, h2⟩ := h.run hI ht;obtain ⟨y, g1, g2⟩ := g.run hI ht;refine ⟨.tuple #[x, y], ?_, .tup _ [x, y] rfl (cX h2 (cX g2 eJ)).2⟩
  rw [mZ, hr]
  simp [h1, g1]
end
end Go.Av
namespace Go.Av
theorem Inv.alloc_chunk {I : Info} {A : List Chunk} {w : World} (h : Inv I A w) {o : Nat} (ho : I.obj o = none) (x : Obj) {c : Chunk} (hcb : c.blk (I.putObj o w.heap.size) = some w.heap.size)
    (hc : c.Holds (I.putObj o w.heap.size) (w.alloc x)) : Inv (I.putObj o w.heap.size) (c :: A) (w.alloc x) := by
  have X := h.new_obj ho x
  have hlt : ∀ c ∈ A, ∀ b, c.blk I = some b → b ≠ w.heap.size := fun c hc b hb e => by
    have := (h.holds c hc).blk_lt hb; omega
  have K : Inv (I.putObj o w.heap.size) A (w.alloc x) := by
    refine h.keep X (fun c hc b hb => ⟨ca _ _ _ (hlt c hc b hb), by simp only [Info.putObj]; rw [if_neg (hlt c hc b hb)]⟩) (fun b hb => ?_) ?_
    · simp only [World.size_alloc] at hb
      simp only [Info.putObj]; rw [if_neg (by omega)]; exact h.fresh b (by omega)
    · obtain ⟨n, hn⟩ := h.ids
      refine ⟨max n (o + 1), fun x hx => ?_⟩
      have := hn x (by omega)
      refine ⟨?_, this.2⟩
      simp only [Info.putObj]; rw [if_neg (by omega)]; exact this.1
  refine K.cons hc ?_;intro b hb d hd e
  rw [hcb] at hb
  have := ((h.holds d hd).keep X (fun b' hb' => ⟨ca _ _ _ (hlt d hd b' hb'), by simp only [Info.putObj]; rw [if_neg (hlt d hd b' hb')]⟩)).2
  rw [this] at e
  exact hlt d hd b e (ap hb).symm
theorem Inv.set_chunk {I : Info} {A : List Chunk} {w : World} {c c' : Chunk} {b : Nat} (h : Inv I (c :: A) w) (hcb : c.blk I = some b) (hcb' : c'.blk I = some b) (he : I.ext b = some 0)
    (hnc : ∀ cs E fz, w.heap[b]? ≠ some (.cells cs E fz)) {w' : World} (hos : w'.os = w.os) (htape : w'.tape = w.tape) (hout : w'.output = w.output) (hsz : w'.heap.size = w.heap.size)
    (hne : ∀ b', b' ≠ b → w'.heap[b']? = w.heap[b']?) (hc : Ext I w I w' → c'.Holds I w') : Ext I w I w' ∧ Inv I (c' :: A) w' := by
  have X : Ext I w I w' := by
    refine ⟨hos, htape, hout, by omega, fun c hc => ?_, fun c j hj => ?_, fun _ _ h => h, fun _ _ h => h, fun _ _ h => h, fun c E hE => ?_⟩
    · have : c ≠ b := fun e => by rw [e, he] at hc; cases hc
      exact ⟨hne c this, hc⟩
    · have : c ≠ b := fun e => by have := hj 0 (by rw [e]; exact he); omega
      simp only [World.cell?, hne c this]
    · by_cases e : c = b
      · subst e; obtain ⟨d, fz, hd⟩ := hE; exact absurd hd (hnc _ _ _)
      · obtain ⟨d, fz, hd⟩ := hE; exact ⟨d, fz, (hne c e).trans hd⟩
  have hap := h.apart (c := c) (b := b) hcb
  refine ⟨X, Inv.cons ((h.sub (List.sublist_cons_self ..)).keep X (fun d hd b' hb' => ?_) (fun b' hb' => h.fresh b' (by omega)) h.ids) (hc X) (fun b' hb' d hd e => ?_)⟩
  · have : b' ≠ b := fun e => hap d hd (by rw [← e]; exact hb')
    exact ⟨hne b' this, rfl⟩
  · exact hap d hd (by rw [hcb'] at hb'; cases hb'; exact e)
section
variable {I : Info} {A : List Chunk} {w : World} {P : Program} {o N d : Nat} {st : LoopState} {pend : Option Code} {fn : FuncId} {env : Nat → AV} {ps : Array Tmp} {asg bd : Code}
theorem qi {l : Nat} (h : Inv I (.lp o .ready pend fn N env ps asg bd d :: A) w) (ho : I.obj o = some l) :
    ∃ w', (Instr.beginRound l).run P w = .ok () w' ∧ Ext I w I w' ∧ Inv I (.lp o .busy pend fn N env ps asg bd d :: A) w' := by
  obtain ⟨b, r, ho', he, hh, a1, a2, a3, a4, a5, a6, a7, a8, a9⟩ := h.holds _ (List.mem_cons_self ..)
  rw [ho] at ho'; cases ho'
  have hlt := (Array.getElem?_eq_some_iff.1 hh).1
  refine ⟨{ w with heap := w.heap.setIfInBounds l (.loop { r with state := .busy }) }, ?_, ?_⟩
  · simp only [Instr.beginRound, Instr.getLoop, getObj, setObj, Sem.run_bind, Sem.run, hh, Result.andThen]
    simp [a1, hh]
  · refine h.set_chunk (c' := .lp o .busy pend fn N env ps asg bd d) (show Chunk.blk I (.lp o .ready pend fn N env ps asg bd d) = some l from ho) (show Chunk.blk I (.lp o .busy pend fn N env ps asg bd d) = some l from ho) he (fun _ _ _ e => by rw [hh] at e; cases e) rfl rfl rfl (by simp) (fun b' hb' => by simp only []; rw [Array.getElem?_setIfInBounds_ne (Ne.symm hb')]) fun X => ?_
    exact ⟨l, { r with state := .busy }, ho, he, by simp [hlt], rfl, a2, a3, a4, fun t => (a5 t).mono X, a6, a7, a8, a9⟩
theorem sO {l : Nat} (h : Inv I (.lp o st pend fn N env ps asg bd d :: A) w) (ho : I.obj o = some l) (jump : Option Code) :
    ∃ w', (Instr.endRound l jump).run P w = .ok (.bool jump.isNone) w' ∧ Ext I w I w' ∧ Inv I (.lp o (if jump.isNone then .ready else .done) jump fn N env ps asg bd d :: A) w' := by
  obtain ⟨b, r, ho', he, hh, a1, a2, a3, a4, a5, a6, a7, a8, a9⟩ := h.holds _ (List.mem_cons_self ..)
  rw [ho] at ho'; cases ho'
  have hlt := (Array.getElem?_eq_some_iff.1 hh).1
  refine ⟨{ w with heap := w.heap.setIfInBounds l (.loop { r with state := if jump.isNone then .ready else .done, pending := jump }) }, ?_, ?_⟩
  · simp only [Instr.endRound, Instr.getLoop, getObj, setObj, Sem.run_bind, Sem.run, hh, Result.andThen]
    simp [hh]
  · refine h.set_chunk (c' := .lp o (if jump.isNone then .ready else .done) jump fn N env ps asg bd d) (show Chunk.blk I (.lp o st pend fn N env ps asg bd d) = some l from ho) (show Chunk.blk I (.lp o (if jump.isNone then .ready else .done) jump fn N env ps asg bd d) = some l from ho) he (fun _ _ _ e => by rw [hh] at e; cases e) rfl rfl rfl (by simp) (fun b' hb' => by simp only []; rw [Array.getElem?_setIfInBounds_ne (Ne.symm hb')]) fun X => ?_
    exact ⟨l, { r with state := if jump.isNone then .ready else .done, pending := jump }, ho, he, by simp [hlt], rfl, rfl, a3, a4, fun t => (a5 t).mono X, a6, a7, a8, a9⟩
theorem tZ {l : Nat} (h : Inv I (.lp o st pend fn N env ps asg bd d :: A) w) (ho : I.obj o = some l) (hs : st ≠ .busy) :
    ∃ w', (Instr.endLoop l).run P w = .ok pend w' ∧ Ext I w I w' ∧ Inv I A w' := by
  obtain ⟨b, r, ho', he, hh, a1, a2, a3, a4, a5, a6, a7, a8, a9⟩ := h.holds _ (List.mem_cons_self ..)
  rw [ho] at ho'; cases ho'
  have hlt := (Array.getElem?_eq_some_iff.1 hh).1
  have hb : (r.state == LoopState.busy) = false := by rw [a1]; cases st <;> first | rfl | exact absurd rfl hs
  obtain ⟨X, hI⟩ := h.set_chunk (c' := .lp o .exhausted pend fn N env ps asg bd d) (w' := { w with heap := w.heap.setIfInBounds l (.loop { r with state := .exhausted }) }) (show Chunk.blk I (.lp o st pend fn N env ps asg bd d) = some l from ho) (show Chunk.blk I (.lp o .exhausted pend fn N env ps asg bd d) = some l from ho) he (fun _ _ _ e => by rw [hh] at e; cases e) rfl rfl rfl (by simp) (fun b' hb' => by simp only []; rw [Array.getElem?_setIfInBounds_ne (Ne.symm hb')]) fun X =>
    ⟨l, { r with state := .exhausted }, ho, he, by simp [hlt], rfl, a2, a3, a4, fun t => (a5 t).mono X, a6, a7, a8, a9⟩
  refine ⟨_, ?_, X, hI.sub (List.sublist_cons_self ..)⟩
  simp only [Instr.endLoop, Instr.getLoop, getObj, setObj, Sem.run_bind, Sem.run, hh, Result.andThen, hb, Bool.false_eq_true, if_false]
  simp [hh, a2, Sem.run, Result.andThen]
  intro e; exact absurd (a1.symm.trans e) hs
theorem xd {l : Nat} (h : Inv I (.lp o st pend fn N env ps asg bd d :: A) w) (ho : I.obj o = some l) (args : Array Value) (hn : args.size = ps.size) :
    ∃ tmps, (Instr.yield l args).run P w = .ok (.round l fn ((ps.zip args).foldl (fun tmps (t, a) => tmps.setIfInBounds t a) tmps) asg bd) w ∧ tmps.size = N ∧ ∀ t, Rel I w (env t) (tmps.getD t undef) := by
  obtain ⟨b, r, ho', he, hh, a1, a2, a3, a4, a5, a6, a7, a8, a9⟩ := h.holds _ (List.mem_cons_self ..)
  rw [ho] at ho'; cases ho'
  refine ⟨r.tmps, ?_, a4, a5⟩
  simp only [Instr.yield, Instr.getLoop, getObj, Sem.run_bind, Sem.run, hh, Result.andThen]
  simp [a3, a6, a7, a8, hn]
theorem rC (h : Inv I A w) {tmps : Array Value} (hs : tmps.size = N) (he : ∀ t, Rel I w (env t) (tmps.getD t undef)) :
    ∃ l b o2 o1 w' I', (Instr.enterLoop fn tmps ps asg bd none).run P w = .ok (l, [{ target := .collected b, args := #[] }]) w' ∧ Ext I w I' w' ∧ I'.obj o1 = some l ∧ I'.obj o2 = some b ∧ Inv I' (.lp o1 .ready none fn N env ps asg bd o2 :: .db o2 :: A) w' := by
  obtain ⟨o2, ho2⟩ := h.fresh_obj
  have X1 := h.new_obj ho2 (.deferred (some []))
  have hI1 := h.alloc_chunk ho2 (.deferred (some [])) (c := .db o2) (by simp [Chunk.blk, Info.putObj]) ⟨w.heap.size, by simp [Info.putObj], by simp [Info.putObj], cc _ _⟩
  obtain ⟨o1, ho1⟩ := hI1.fresh_obj
  have X2 := hI1.new_obj ho1 (.loop { state := .ready, pending := none, fn, tmps, params := ps, assign := asg, body := bd, defers := w.heap.size })
  have hd : (Info.putObj I o2 w.heap.size).obj o2 = some w.heap.size := by simp [Info.putObj]
  have hI2 := hI1.alloc_chunk ho1 (.loop { state := .ready, pending := none, fn, tmps, params := ps, assign := asg, body := bd, defers := w.heap.size }) (c := .lp o1 .ready none fn N env ps asg bd o2) (by simp [Chunk.blk, Info.putObj])
    ⟨(w.alloc (.deferred (some []))).heap.size, { state := .ready, pending := none, fn, tmps, params := ps, assign := asg, body := bd, defers := w.heap.size }, by simp [Info.putObj], by simp [Info.putObj], cc _ _, rfl, rfl, rfl, hs, fun t => ((he t).mono X1).mono X2, rfl, rfl, rfl, X2.obj _ _ hd⟩
  refine ⟨(w.alloc (.deferred (some []))).heap.size, w.heap.size, o2, o1, _, _, ?_, X1.trans X2, by simp [Info.putObj], X2.obj _ _ hd, hI2⟩
  simp only [Instr.enterLoop, newObj, Sem.run_bind, Sem.run, Result.andThen]
  rfl
end
end Go.Av
namespace Go.Av
open Go.RowKit
section
variable {P : Program} {ro : Option Nat} {N : Nat} {Q : eH} {ops : Array Oper}
def mV (P : Program) (o : Nat) (args : List AV) (A : List Chunk) (R : AE → List Chunk → Prop) : Prop :=
  ∀ F I w vs l, Inv I (A ++ F) w → I.obj o = some l → RelL I w args vs → ∃ fn tmps asg bd, (Instr.yield l vs.toArray).run P w = .ok (.round l fn tmps asg bd) w ∧
    RoundIn (dd none) 0 P l fn tmps asg bd w fun e w' => ∃ I' ae A', Ext I w I' w' ∧ Inv I' (A' ++ F) w' ∧ RelE I' w' ae e ∧ R ae A'
theorem rel_yl {I : Info} {w : World} {o : Nat} {v : Value} (h : Rel I w (.yl o) v) : ∃ l, v = .func (.yield l) #[] #[] ∧ I.obj o = some l := by
  cases h with
  | yl o l h => exact ⟨l, rfl, h⟩
theorem AO.yield {rest : List Nat} {d : Nat} {x : Operand} {o : Nat} {args : Array Operand} {argTypes : Array TypeId} {Ty : TypeId} {pos : String} {after : Array Edge} {g : Option (Nat × Bool)} {e : Env} {ds : List ADef} {A : List Chunk} (B T : List Chunk)
    {R : AE → List Chunk → Prop} {avs : List AV} (hd : Nat.blt d N = true) (hx : opv e x = .yl o) (ha : args.toList.map (opv e) = avs) (p : A = B ++ T)
    (h : mV P o avs T R) (k : ∀ av T', R (.ret av) T' → AR P none N ops Q rest ⟨(d, av) :: e, ds, B ++ T'⟩)
    (kp : ∀ c T', R (.pan c) T' → Q (.panic c) ⟨e, ds, B ++ T'⟩) :
    AO P none N ops Q rest ⟨some d, .call ⟨.value x, args, argTypes⟩, Ty, pos, after, g⟩ ⟨e, ds, A⟩ := fun F I w a hI hS => by
  subst p
  have hS' := hS
  obtain ⟨l, hv, ho⟩ := rel_yl (hx ▸ hS'.op x)
  have hrl : RelL I w avs (args.toList.map a.eval) := by
    rw [← ha]; exact eK _ _ _ fun x _ => hS'.op x
  have hI2 : Inv I (T ++ (B ++ F)) w := by
    refine hI.perm ?_
    rw [← List.append_assoc]
    exact (List.perm_append_comm).append_right F
  obtain ⟨fn, tmps, asg, bd, hy, hR⟩ := h (B ++ F) I w _ l hI2 ho hrl;refine ⟨fun _ _ => dc _, ?_⟩
  have he : (#[] : Array Value) ++ args.map a.eval = (args.toList.map a.eval).toArray := by apply Array.ext'; simp
  have hex : (Oper.semAt (dd none).round a.eval ⟨some d, .call ⟨.value x, args, argTypes⟩, Ty, pos, after, g⟩).run P w = .ok (.round l fn tmps asg bd) w := by
    rw [Oper.semAt_eq _ _ _ (fun c h => by cases h)]
    simp only [execOp, resolve, hv, Deferred.ofValue, Sem.run_bind, Sem.run_pure, Result.andThen_ok, invoke, he, Array.append_empty]
    exact hy
  rw [hex]
  refine ⟨mS, hR.mono fun en w' ⟨I', ae, A', E, hI', hre, hR⟩ => ?_⟩
  have hI3 : Inv I' ((B ++ A') ++ F) w' := by
    refine hI'.perm ?_
    rw [← List.append_assoc]
    exact (List.perm_append_comm).append_right F
  cases en with
  | returned v =>
    cases ae with
    | ret av =>
      have hk := k av A' hR F I' w' (a.put (some d) v) hI3 ((hS.mono E).put (ai hd) hre _)
      exact cG rest (fun _ _ _ => dK E fun _ _ h => h) _ _ hk
    | pan c => exact hre.elim
  | panicked c =>
    cases ae with
    | ret av => exact hre.elim
    | pan c' =>
      cases hre
      exact ⟨I', ⟨e, ds, B ++ A'⟩, E, hI3, ⟨hS.size, (hS.mono E).env, (hS.mono E).ds⟩, kp _ A' hR⟩
  | outgrown => cases ae <;> exact hre.elim
def sB {σ τ : Type} (T : σ → τ → List Chunk) (J : σ → Option Code) (R : AE → σ → Prop) : eH
  | .normal, s => ∃ s' t', R (.ret (.v (.bool true))) s' ∧ J s' = none ∧ Sub (T s' t') s.A
  | .ret, s => ∃ s' t', R (.ret (.v (.bool false))) s' ∧ J s' = some .ret ∧ Sub (T s' t') s.A
  | .exit id, s => ∃ s' t', R (.ret (.v (.bool false))) s' ∧ J s' = some (.exit id) ∧ Sub (T s' t') s.A
  | .goto l, s => ∃ s' t', R (.ret (.v (.bool false))) s' ∧ J s' = some (.goto l) ∧ Sub (T s' t') s.A
  | .panic _, _ => False
  | .outgrown, _ => False
def NoExit (K : St → Prop) : eH
  | .normal, s => K s
  | _, _ => False
def rc : List (Nat × AV) → Env → Env
  | [], e => e
  | p :: l, e => rc l (p :: e)
theorem qz {I : Info} {w : World} : ∀ (l : List (Nat × Value)) (m : List (Nat × AV)) (e : Env) (tmps : Array Value), tmps.size = N → (∀ t, Rel I w (ev e t) (tmps.getD t undef)) →
    l.map (·.1) = m.map (·.1) → (∀ p ∈ m, p.1 < N) → RelL I w (m.map (·.2)) (l.map (·.2)) →
    (l.foldl (fun tmps p => tmps.setIfInBounds p.1 p.2) tmps).size = N ∧ ∀ t, Rel I w (ev (rc m e) t) ((l.foldl (fun tmps p => tmps.setIfInBounds p.1 p.2) tmps).getD t undef)
  | [], m, e, tmps, hs, he, hk, hN, hr => by
    cases m with
    | nil => exact ⟨hs, he⟩
    | cons q m => simp at hk
  | p :: l, m, e, tmps, hs, he, hk, hN, hr => by
    cases m with
    | nil => simp at hk
    | cons q m =>
      simp only [List.map_cons, List.cons.injEq] at hk
      have hr' : RelL I w (q.2 :: m.map (·.2)) (p.2 :: l.map (·.2)) := hr
      have hS : RelS N I w ⟨e, [], []⟩ { tmps := tmps, defers := [] } := ⟨hs, he, .nil⟩
      have hp := hS.put (d := p.1) (by rw [hk.1]; exact hN q (List.mem_cons_self ..)) hr'.head []
      refine qz l m (q :: e) _ (by simpa using hs) (fun t => ?_) hk.2 (fun r hr => hN r (List.mem_cons_of_mem _ hr)) hr'.tail
      have := hp.env t
      have hq : q = (p.1, q.2) := by rw [hk.1]
      rw [hq]
      exact this
abbrev _root_.Go.Av.eR := @List.perm_middle
theorem uW (c d : Chunk) (A B C : List Chunk) : (A ++ (c :: B) ++ (d :: C)).Perm (c :: d :: (A ++ B ++ C)) := by
  have h1 : (A ++ (c :: B) ++ (d :: C)).Perm (d :: (A ++ (c :: B) ++ C)) := eR
  have h2 : (A ++ (c :: B) ++ C).Perm (c :: (A ++ B ++ C)) := by
    rw [List.append_assoc, List.append_assoc, List.cons_append]
    exact eR
  exact h1.trans ((h2.cons d).trans (List.Perm.swap ..))
theorem AW.rangeFunc {α σ τ : Type} {gf : Operand} {ps : Array Tmp} {asg bd : Code} {f : FuncId} {fs cs : List AV} {e : Env} {ds : List ADef} {A : List Chunk}
    (enc : α → List AV) (Own B : List Chunk) (T : σ → τ → List Chunk) (J : σ → Option Code) (D : σ → α → Prop) (RR : σ → α → AE → σ → Prop) (RE : AV → σ → List Chunk → Prop) (s₀ : σ) (t₀ : τ)
    (hg : opv e gf = .fn (.func f) fs cs) (hf : ∀ args w, (callFunc f args).run P w = .ok (.enter f args) w) (hps : ∀ x, (enc x).length = ps.size) (hN : ∀ p ∈ ps.toList, p < N)
    (p : A.Perm (Own ++ (T s₀ t₀ ++ B))) (hJ : J s₀ = none)
    (hround : ∀ l s t x, D s x → J s = none ∧ AW P (some l) N asg (NoExit (AW P (some l) N bd (sB T J (RR s x)))) ⟨rc (ps.toList.zip (enc x)) e, [], T s t⟩)
    (hiter : ∀ (o : Nat) (T' : σ → τ → List Chunk), (∀ s t x, D s x → mV P o (enc x) (T' s t) fun ae A' => ∃ s' t', RR s x ae s' ∧ A' = T' s' t') →
      ACalls P f (fs ++ [.yl o] ++ cs) (Own ++ T' s₀ t₀) fun ae A' => ∃ v s₁ t₁ A1, ae = .ret v ∧ RE v s₁ A1 ∧ A' = A1 ++ T' s₁ t₁)
    (k : ∀ o2 v s₁ t₁ A1, RE v s₁ A1 → match J s₁ with
      | none => Q .normal ⟨e, .mark o2 :: ds, .db o2 :: (A1 ++ (T s₁ t₁ ++ B))⟩
      | some c => AW P none N c Q ⟨e, .mark o2 :: ds, .db o2 :: (A1 ++ (T s₁ t₁ ++ B))⟩) :
    AW P none N (.rangeFunc gf ps asg bd) Q ⟨e, ds, A⟩ := fun F I w a hI hS => by
  refine wpIn_rangeFunc fun fn hfn => ?_
  have hS0 := hS
  obtain ⟨xs, ys, hv, hxs, hys⟩ := wB (hg ▸ hS0.op gf);obtain ⟨l, b, o2, o1, w1, I1, hrun, E1, ho1, ho2, hI1⟩ := rC (P := P) (fn := fn) (ps := ps) (asg := asg) (bd := bd) (env := fun t => ev e t) hI hS.size hS.env
  have hS1 := hS.mono E1
  have he : xs.toArray ++ #[Value.func (.yield l) #[] #[]] ++ ys.toArray = (xs ++ [Value.func (.yield l) #[] #[]] ++ ys).toArray := by apply Array.ext'; simp
  refine ⟨l, _, w1, { target := .fn (.func f) ys.toArray, args := xs.toArray ++ #[Value.func (.yield l) #[] #[]] }, w1, f, (xs ++ [Value.func (.yield l) #[] #[]] ++ ys).toArray, w1, hrun, ?_, fun _ _ => dc _, ?_, mS, ?_⟩
  · have := kz (P := P) (ρ := a.eval) (args := #[.const (.func (.yield l) #[] #[])]) (argTypes := #[]) (T := 0) (w := w1) hv
    simpa [rangeCall, Act.eval] using this
  · simp only [invoke, he]
    exact hf _ _
  -- the record's chunk
  obtain ⟨LP, hLP⟩ : ∃ LP : LoopState → Option Code → Chunk, LP = fun st j => .lp o1 st j fn N (fun t => ev e t) ps asg bd o2 := ⟨_, rfl⟩
  obtain ⟨T', hT'⟩ : ∃ T' : σ → τ → List Chunk, T' = fun s t => LP (if (J s).isNone then .ready else .done) (J s) :: T s t := ⟨_, rfl⟩
  have hY : ∀ s t x, D s x → mV P o1 (enc x) (T' s t) fun ae A' => ∃ s' t', RR s x ae s' ∧ A' = T' s' t' := by
    intro s t x hD F' I' w' vs l' hI' hol hrl;obtain ⟨hJs, hwalk⟩ := hround l' s t x hD
    have hT0 : T' s t = LP .ready none :: T s t := by rw [hT']; simp [hJs]
    rw [hT0] at hI'
    rw [hLP] at hI'
    obtain ⟨tmps, hyr, hts, htr⟩ := xd (P := P) (A := T s t ++ F') hI' hol vs.toArray (by rw [List.size_toArray, hrl.1]; exact hps x);refine ⟨fn, _, asg, bd, hyr, roundIn_of_wpIn hfn ?_⟩
    have hlen : vs.length = ps.toList.length := by rw [hrl.1, hps x]; simp
    have hzip : (ps.zip vs.toArray).toList = ps.toList.zip vs := by simp
    have hfold : (ps.zip vs.toArray).foldl (fun tmps p => tmps.setIfInBounds p.1 p.2) tmps = (ps.toList.zip vs).foldl (fun tmps p => tmps.setIfInBounds p.1 p.2) tmps := by
      rw [← hzip, Array.foldl_toList]
    have hput := qz (N := N) (ps.toList.zip vs) (ps.toList.zip (enc x)) e tmps hts htr
      (by rw [List.map_fst_zip (by omega), List.map_fst_zip (by have := hps x; simp; omega)])
      (fun q hq => hN _ (List.of_mem_zip hq).1)
      (by rw [List.map_snd_zip (by have := hps x; simp; omega), List.map_snd_zip (by omega)]; exact hrl)
    have hIp : Inv I' (T s t ++ (LP .ready none :: F')) w' := by
      rw [hLP]
      refine hI'.perm ?_;exact (eR).symm
    have hSr : RelS N I' w' ⟨rc (ps.toList.zip (enc x)) e, [], T s t⟩ { tmps := (ps.zip vs.toArray).foldl (fun tmps (p : Nat × Value) => tmps.setIfInBounds p.1 p.2) tmps, defers := [] } := by
      refine ⟨(congrArg Array.size hfold).trans hput.1, fun t0 => ?_, .nil⟩
      have h0 := hput.2 t0
      rw [← hfold] at h0
      exact h0
    refine wpIn_mono (hwalk (LP .ready none :: F') I' w' _ hIp hSr) fun e1 a1 w1' hq1 => ?_
    obtain ⟨I2, s2, E2, hI2, hS2, hq1⟩ := hq1
    cases e1 with
    | normal =>
      have hI2p : Inv I2 (.lp o1 .ready none fn N (fun t => ev e t) ps asg bd o2 :: (s2.A ++ F')) w1' := by
        refine hI2.perm ?_
        rw [hLP]
        exact eR
      obtain ⟨w2, hbr, E3, hI3⟩ := qi (P := P) hI2p (E2.obj _ _ hol);refine ⟨w2, hbr, ?_⟩
      have hI3p : Inv I2 (s2.A ++ (.lp o1 .busy none fn N (fun t => ev e t) ps asg bd o2 :: F')) w2 := hI3.perm (eR).symm
      refine wpIn_mono (hq1 _ I2 w2 a1 hI3p (hS2.mono E3)) fun e3 a3 w3 hq3 => ?_
      obtain ⟨I4, s4, E4, hI4, hS4, hq3⟩ := hq3
      have hol4 := E4.obj _ _ (E3.obj _ _ (E2.obj _ _ hol))
      have E14 := (E2.trans E3).trans E4
      have fin : ∀ (jump : Option Code) (s' : σ) (t' : τ), J s' = jump → Sub (T s' t') s4.A → RR s x (.ret (.v (.bool jump.isNone))) s' →
          ∃ v w5, (Instr.endRound l' jump).run P w3 = .ok v w5 ∧ ∃ I5 ae A', Ext I' w' I5 w5 ∧ Inv I5 (A' ++ F') w5 ∧ RelE I5 w5 ae (.returned v) ∧ ∃ s' t', RR s x ae s' ∧ A' = T' s' t' := by
        intro jump s' t' hj hsub hr
        have hI4p : Inv I4 (.lp o1 .busy none fn N (fun t => ev e t) ps asg bd o2 :: (T s' t' ++ F')) w3 := by
          have h1 := hsub.inv hI4
          exact h1.perm eR
        obtain ⟨w5, hend, E5, hI5⟩ := sO (P := P) hI4p hol4 jump;refine ⟨_, w5, hend, I4, .ret (.v (.bool jump.isNone)), T' s' t', E14.trans E5, ?_, .v _, s', t', hr, rfl⟩
        have : T' s' t' = .lp o1 (if jump.isNone then .ready else .done) jump fn N (fun t => ev e t) ps asg bd o2 :: T s' t' := by rw [hT', hLP, ← hj]
        rw [this]
        exact hI5
      cases e3 with
      | normal => obtain ⟨s', t', hr, hj, hsub⟩ := hq3; exact fin none s' t' hj hsub hr
      | ret => obtain ⟨s', t', hr, hj, hsub⟩ := hq3; exact fin (some .ret) s' t' hj hsub hr
      | exit id => obtain ⟨s', t', hr, hj, hsub⟩ := hq3; exact fin (some (.exit id)) s' t' hj hsub hr
      | goto q => obtain ⟨s', t', hr, hj, hsub⟩ := hq3; exact fin (some (.goto q)) s' t' hj hsub hr
      | panic c => exact hq3.elim
      | outgrown => exact hq3.elim
    | _ => exact hq1.elim
  -- the one call
  have hT0 : T' s₀ t₀ = LP .ready none :: T s₀ t₀ := by rw [hT']; simp [hJ]
  have hI1p : Inv I1 ((Own ++ T' s₀ t₀) ++ (.db o2 :: (B ++ F))) w1 := by
    refine hI1.perm ?_
    rw [hT0, hLP]
    have h1 : (A ++ F).Perm (Own ++ (T s₀ t₀ ++ (B ++ F))) := by
      refine (p.append_right F).trans (List.Perm.of_eq ?_)
      simp
    refine ((h1.cons _).cons _).trans ?_;exact (List.Perm.of_eq (by simp)).trans (uW _ _ Own (T s₀ t₀) (B ++ F)).symm
  have hrl : RelL I1 w1 (fs ++ [.yl o1] ++ cs) (xs ++ [Value.func (.yield l) #[] #[]] ++ ys) :=
    ((hxs.mono E1).append (cX (.yl o1 l ho1) eJ)).append (hys.mono E1)
  refine (AO.call.callsIn_wide').2 ((hiter o1 T' hY _ I1 w1 _ hI1p hrl).mono fun en w2 ⟨I2, ae, A', E2, hI2, hre, av, s₁, t₁, A1, hae, hRE, hA'⟩ => ?_)
  have E12 := E1.trans E2
  subst hae
  cases en with
  | returned v =>
      have hA2 : A' = A1 ++ (LP (if (J s₁).isNone then .ready else .done) (J s₁) :: T s₁ t₁) := by rw [hA', hT']
      rw [hA2, hLP] at hI2
      have hI2p : Inv I2 (.lp o1 (if (J s₁).isNone then .ready else .done) (J s₁) fn N (fun t => ev e t) ps asg bd o2 :: (.db o2 :: (A1 ++ (T s₁ t₁ ++ B)) ++ F)) w2 := by
        refine hI2.perm ?_;exact (uW _ _ A1 (T s₁ t₁) (B ++ F)).trans (List.Perm.of_eq (by simp))
      obtain ⟨w3, hend, E3, hI3⟩ := tZ (P := P) hI2p (E2.obj _ _ ho1) (by split <;> simp)
      have hS3 : RelS N I2 w3 ⟨e, .mark o2 :: ds, .db o2 :: (A1 ++ (T s₁ t₁ ++ B))⟩ { a with defers := [{ target := .collected b, args := #[] }] ++ a.defers } :=
        ⟨hS.size, ((hS1.mono E2).mono E3).env, .cons (.mark o2 b (E3.obj _ _ (E2.obj _ _ ho2))) ((hS1.mono E2).mono E3).ds⟩
      have hk := k o2 av s₁ t₁ A1 hRE
      refine ⟨_, w3, hend, ?_⟩
      cases hj : J s₁ with
      | none => rw [hj] at hk; exact ⟨I2, _, E12.trans E3, hI3, hS3, hk⟩
      | some c => rw [hj] at hk; exact wpIn_mono (hk F I2 w3 _ hI3 hS3) fun _ _ _ => dK (E12.trans E3) fun _ _ h => h
  | panicked c => exact hre.elim
  | outgrown => exact hre.elim
theorem Inv.lose {I : Info} {A : List Chunk} {w : World} {c : Chunk} {b : Nat} (h : Inv I (c :: A) w) (hcb : c.blk I = some b) (he : I.ext b = some 0)
    (hnc : ∀ cs E fz, w.heap[b]? ≠ some (.cells cs E fz)) {w' : World} (hos : w'.os = w.os) (htape : w'.tape = w.tape) (hout : w'.output = w.output) (hsz : w'.heap.size = w.heap.size)
    (hne : ∀ b', b' ≠ b → w'.heap[b']? = w.heap[b']?) : Ext I w I w' ∧ Inv I A w' := by
  have X : Ext I w I w' := by
    refine ⟨hos, htape, hout, by omega, fun c hc => ?_, fun c j hj => ?_, fun _ _ h => h, fun _ _ h => h, fun _ _ h => h, fun c E hE => ?_⟩
    · have : c ≠ b := fun e => by rw [e, he] at hc; cases hc
      exact ⟨hne c this, hc⟩
    · have : c ≠ b := fun e => by have := hj 0 (by rw [e]; exact he); omega
      simp only [World.cell?, hne c this]
    · by_cases e : c = b
      · subst e; obtain ⟨d, fz, hd⟩ := hE; exact absurd hd (hnc _ _ _)
      · obtain ⟨d, fz, hd⟩ := hE; exact ⟨d, fz, (hne c e).trans hd⟩
  have hap := h.apart (c := c) (b := b) hcb
  refine ⟨X, (h.sub (List.sublist_cons_self ..)).keep X (fun d hd b' hb' => ?_) (fun b' hb' => h.fresh b' (by omega)) h.ids⟩
  have : b' ≠ b := fun e => hap d hd (by rw [← e]; exact hb')
  exact ⟨hne b' this, rfl⟩
inductive Unmark : List ADef → List Chunk → List Chunk → Prop where
  | nil (A : List Chunk) : Unmark [] A A
  | cons {o : Nat} {ds : List ADef} {A A1 B : List Chunk} (p : A.Perm (.db o :: A1)) (h : Unmark ds A1 B) : Unmark (.mark o :: ds) A B
theorem Unmark.sound {fn : Func} {R : Ending → World → Prop} {F : List Chunk} {e : Env} {u : FrameMode} (hu : u ≠ .run) : ∀ {ads : List ADef} {A B : List Chunk}, Unmark ads A B → ∀ (ds : List Deferred) (I : Info) (w : World) (a : Act), Inv I (A ++ F) w → RelS N I w ⟨e, ads, A⟩ a → a.defers = ds →
    (∀ w', Ext I w I w' → Inv I (B ++ F) w' → RelS N I w' ⟨e, [], B⟩ { a with defers := [] } → LeavesIn (dd none) 0 P fn a.tmps R [] u w') → LeavesInM (dd none) 0 P fn a.tmps R ds u w := by
  intro ads A B h
  induction h with
  | nil A =>
    intro ds I w a hI hS hd k
    have := eG hS.ds
    rw [hd] at this
    subst this
    have := k w (bU _ _) hI ⟨hS.size, hS.env, .nil⟩
    exact this
  | @cons o ads' A' A1 B' p h ih =>
    intro ds I w a hI hS hd k
    have hds := hS.ds
    rw [hd] at hds
    cases hds with
    | cons hm hds =>
      rename_i d ds'
      cases hm with
      | mark o b ho =>
        have hI1 : Inv I (.db o :: (A1 ++ F)) w := hI.perm (p.append_right F)
        obtain ⟨b', ho', he, hh⟩ := hI1.holds _ (List.mem_cons_self ..)
        rw [ho] at ho'; cases ho'
        obtain ⟨X, hI2⟩ := hI1.lose (w' := w.putObj b (.deferred none)) (b := b) ho he (fun _ _ _ e => by rw [hh] at e; cases e) rfl rfl rfl (by simp) (fun b' hb' => World.putObj_heap_other hb');refine ⟨hu, .inl ⟨b, w.putObj b (.deferred none), rfl, run_takeDeferred hh, ?_⟩⟩;exact ih ds' I _ { a with defers := ds' } hI2 ⟨hS.size, (hS.mono X).env, hds.mono X⟩ rfl (fun w' X' hI' hS' => k w' (X.trans X') hI' hS')
def RetPostM (P : Program) (fn : Func) (N : Nat) (R : AE → List Chunk → Prop) : eH
  | .normal, s | .ret, s => ∃ B, Unmark s.ds s.A B ∧ ∃ av A', ResV P fn N ⟨s.env, [], B⟩ av ∧ Sub A' B ∧ R (.ret av) A'
  | _, _ => False
theorem pX {f : FuncId} {fn : Func} {c : Code} {args : List AV} {A : List Chunk} {R : AE → List Chunk → Prop} (hf : P.funcs[f]? = some fn) (hb : fn.body = some c) (hl : Nat.ble args.length fn.ntmps = true)
    (h : AW P none fn.ntmps c (RetPostM P fn fn.ntmps R) ⟨kS 0 args, [], A⟩) : ACalls P f args A R := fun F I w vs hI hv => by
  refine (callsIn_wide (n := 0)).1 (callsIn_of_wp_marks (F := Fence.wide) hf hb trivial ?_)
  refine wpIn_mono (h F I w _ hI (pg hv (ai hl))) fun e a w' hq => ?_
  obtain ⟨I', s', E, hI', hS', hq⟩ := hq
  have go : (∃ B, Unmark s'.ds s'.A B ∧ ∃ av A', ResV P fn fn.ntmps ⟨s'.env, [], B⟩ av ∧ Sub A' B ∧ R (.ret av) A') → LeavesInM (dd none) 0 P fn a.tmps (fun e w' => ∃ I' ae A', Ext I w I' w' ∧ Inv I' (A' ++ F) w' ∧ RelE I' w' ae e ∧ R ae A') a.defers .returning w' := by
    rintro ⟨B, hu, av, A', hres, hsub, hR⟩
    refine Unmark.sound (N := fn.ntmps) (e := s'.env) (F := F) (by simp) hu a.defers I' w' a hI' hS' rfl fun w2 X hI2 hS2 => ?_
    obtain ⟨v, hrun, hv⟩ := hres F I' w2 { a with defers := [] } hI2 hS2;exact ⟨v, hrun, I', .ret av, A', E.trans X, hsub.inv hI2, hv, hR⟩
  cases e with
  | normal => exact go hq
  | ret => exact go hq
  | panic c => exact hq.elim
  | exit id => exact hq.elim
  | goto l => exact hq.elim
  | outgrown => exact hq.elim
def qK {σ τ : Type} (T : σ → τ → List Chunk) (J : σ → Option Code) (rv : σ × Bool) : eH
  | .normal, s => rv.2 = true ∧ J rv.1 = none ∧ ∃ t', Sub (T rv.1 t') s.A
  | .ret, s => rv.2 = false ∧ J rv.1 = some .ret ∧ ∃ t', Sub (T rv.1 t') s.A
  | .exit id, s => rv.2 = false ∧ J rv.1 = some (.exit id) ∧ ∃ t', Sub (T rv.1 t') s.A
  | .goto l, s => rv.2 = false ∧ J rv.1 = some (.goto l) ∧ ∃ t', Sub (T rv.1 t') s.A
  | _, _ => False
theorem AW.rangeK {α σ τ : Type} {gf : Operand} {ps : Array Tmp} {asg bd : Code} {fs cs : List AV} {e : Env} {ds : List ADef} {A Own C B Own1 : List Chunk}
    (enc : α → List AV) (T : σ → τ → List Chunk) (J : σ → Option Code) (k : σ → α → Option (σ × Bool)) (s₀ : σ) (t₀ : τ) (s₁ : σ) (io it : List Nat) {f : FuncId}
    (hg : opv e gf = .fn (.func f) fs cs) (hf : ∀ args w, (callFunc f args).run P w = .ok (.enter f args) w) (hps : ∀ x, (enc x).length = ps.size) (hN : ∀ p ∈ ps.toList, p < N)
    (p1 : kT A io = some (Own, C)) (p2 : kT C it = some (T s₀ t₀, B)) (hJ : J s₀ = none)
    (hiter : ∀ (o : Nat) (T' : σ → τ → List Chunk), (∀ s t x rv, k s x = some rv → mV P o (enc x) (T' s t) fun ae A' => ∃ t', ae = .ret (.v (.bool rv.2)) ∧ A' = T' rv.1 t') →
      ACalls P f (fs ++ [.yl o] ++ cs) (Own ++ T' s₀ t₀) fun ae A' => ∃ t₁, ae = .ret (.tup []) ∧ A' = Own1 ++ T' s₁ t₁)
    (hround : ∀ l s t x rv, k s x = some rv → J s = none ∧ AW P (some l) N asg (NoExit (AW P (some l) N bd (qK T J rv))) ⟨rc (ps.toList.zip (enc x)) e, [], T s t⟩)
    (kk : ∀ o2 t₁, match J s₁ with
      | none => Q .normal ⟨e, .mark o2 :: ds, .db o2 :: (Own1 ++ (T s₁ t₁ ++ B))⟩
      | some c => AW P none N c Q ⟨e, .mark o2 :: ds, .db o2 :: (Own1 ++ (T s₁ t₁ ++ B))⟩) :
    AW P none N (.rangeFunc gf ps asg bd) Q ⟨e, ds, A⟩ := by
  have hp : A.Perm (Own ++ (T s₀ t₀ ++ B)) := (ee io _ _ _ p1).trans ((ee it _ _ _ p2).append_left Own)
  refine AW.rangeFunc enc Own B T J (fun s x => ∃ rv, k s x = some rv) (fun s x ae s' => ∃ rv, k s x = some rv ∧ s' = rv.1 ∧ ae = .ret (.v (.bool rv.2))) (fun v s A1 => s = s₁ ∧ A1 = Own1) s₀ t₀ hg hf hps hN hp hJ ?_ ?_ ?_
  · rintro l s t x ⟨rv, hk⟩
    obtain ⟨h1, h2⟩ := hround l s t x rv hk
    have hpost : ∀ ex s1, qK T J rv ex s1 → sB T J (fun ae s' => ∃ rv, k s x = some rv ∧ s' = rv.1 ∧ ae = .ret (.v (.bool rv.2))) ex s1 := by
      intro ex s1 hq
      cases ex with
      | normal => obtain ⟨g1, g2, t', g3⟩ := hq; exact ⟨rv.1, t', ⟨rv, hk, rfl, by rw [g1]⟩, g2, g3⟩
      | ret => obtain ⟨g1, g2, t', g3⟩ := hq; exact ⟨rv.1, t', ⟨rv, hk, rfl, by rw [g1]⟩, g2, g3⟩
      | exit id => obtain ⟨g1, g2, t', g3⟩ := hq; exact ⟨rv.1, t', ⟨rv, hk, rfl, by rw [g1]⟩, g2, g3⟩
      | goto q => obtain ⟨g1, g2, t', g3⟩ := hq; exact ⟨rv.1, t', ⟨rv, hk, rfl, by rw [g1]⟩, g2, g3⟩
      | panic c => exact hq.elim
      | outgrown => exact hq.elim
    refine ⟨h1, h2.mono fun ex s1 hq => ?_⟩
    cases ex with
    | normal => exact AW.mono hq hpost
    | _ => exact hq
  · intro o T' hY
    refine (hiter o T' fun s t x rv hk => ?_).mono fun ae A' ⟨t₁, h1, h2⟩ => ⟨.tup [], s₁, t₁, Own1, h1, ⟨rfl, rfl⟩, h2⟩
    intro F I w vs l hI ho hv;obtain ⟨fn, tmps, asg', bd', hy, hR⟩ := hY s t x ⟨rv, hk⟩ F I w vs l hI ho hv;refine ⟨fn, tmps, asg', bd', hy, hR.mono fun en w' ⟨I', ae, A', E, hI', hre, s', t', ⟨rv', hk', hs, hae⟩, hA⟩ => ?_⟩
    rw [hk] at hk'
    cases hk'
    subst hs;exact ⟨I', ae, A', E, hI', hre, t', hae, hA⟩
  · rintro o2 v s t A1 ⟨rfl, rfl⟩
    exact kk o2 t
theorem AO.yieldT {σ τ : Type} {T : σ → τ → List Chunk} {s' : σ} {b : Bool} {rest : List Nat} {d : Nat} {x : Operand} {o : Nat} {args : Array Operand} {argTypes : Array TypeId} {Ty : TypeId} {pos : String} {after : Array Edge} {g : Option (Nat × Bool)} {e : Env} {ds : List ADef} {A : List Chunk} {avs : List AV}
    (m : Nat) (hd : Nat.blt d N = true) (hx : opv e x = .yl o) (ha : args.toList.map (opv e) = avs) (h : mV P o avs (A.drop m) fun ae A' => ∃ t', ae = .ret (.v (.bool b)) ∧ A' = T s' t')
    (k : ∀ t', AR P none N ops Q rest ⟨(d, .v (.bool b)) :: e, ds, A.take m ++ T s' t'⟩) :
    AO P none N ops Q rest ⟨some d, .call ⟨.value x, args, argTypes⟩, Ty, pos, after, g⟩ ⟨e, ds, A⟩ :=
  AO.yield (A.take m) (A.drop m) hd hx ha (List.take_append_drop m A).symm h (fun av T' ⟨t', h1, h2⟩ => by cases h1; subst h2; exact k t') (fun c T' ⟨t', h1, _⟩ => by cases h1)
theorem WK.atT {e l : Env} {ds : List ADef} {A B C : List Chunk} (m : Nat) (is : List Nat) (h : Env.le e l) (p : kT (A.take m) is = some (B, C)) : WK N ⟨e, ds, A⟩ ⟨l, ds, B ++ A.drop m⟩ := fun F I w a hI hS =>
  ⟨I, bU _ _, by
    have hp := ee is _ _ _ p
    have h0 : A = A.take m ++ A.drop m := (List.take_append_drop m A).symm
    have h1 : (A ++ F).Perm ((B ++ A.drop m) ++ (C ++ F)) := by
      have h2 : (A.take m ++ A.drop m).Perm (B ++ A.drop m ++ C) := by
        refine (hp.append_right (A.drop m)).trans ?_
        rw [List.append_assoc, List.append_assoc]
        exact List.Perm.append_left B List.perm_append_comm
      rw [← h0] at h2
      have := h2.append_right F
      simpa using this
    have h3 := hI.perm h1
    exact h3.sub (List.Sublist.append_left (List.sublist_append_right C F) _), ⟨hS.size, fun t => (h.ev t).rel (hS.env t), hS.ds⟩⟩
theorem Sub.atT {A B C : List Chunk} (m : Nat) (is : List Nat) (p : kT (A.take m) is = some (B, C)) : Sub (B ++ A.drop m) A := by
  have hp := ee is _ _ _ p
  have h2 : (B ++ A.drop m ++ C).Perm (A.take m ++ A.drop m) := by
    refine List.Perm.symm ((hp.append_right (A.drop m)).trans ?_)
    rw [List.append_assoc, List.append_assoc]
    exact List.Perm.append_left B List.perm_append_comm
  rw [List.take_append_drop] at h2
  obtain ⟨D, h1, h2⟩ := List.exists_perm_sublist (List.sublist_append_left (B ++ A.drop m) C) h2;exact ⟨D, h1, h2⟩
theorem Unmark.at {o : Nat} {ds : List ADef} {A B : List Chunk} (i : Nat) (h : A[i]? = some (.db o)) (k : Unmark ds (A.eraseIdx i) B) : Unmark (.mark o :: ds) A B := .cons (mR A i _ h) k
end
end Go.Av
namespace Go.Pv
def cpyB (l b : List UInt8) : List UInt8 := b.take l.length ++ l.drop b.length
def qf (ls : List (List UInt8)) : Bool := (ls.isEmpty || !ls.flatten.isEmpty) && decide (ls.flatten.length ≤ 1000000000) && decide (ls.length ≤ 1000000000)
end Go.Pv
namespace Go.Av
open Go.RowKit Go.Pv
section
variable {P : Program} {I : Info} {w : World} {e : Env} {d : Option Nat} {T : TypeId} {pos : String} {after : Array Edge} {g : Option (Nat × Bool)} {x y z z2 : Operand} {A : List Chunk}
theorem vD {α : Type} {E : Enc α} {l : List α} {a : Option Addr} {m lo hi El : Nat} {xs : List Value} (hsz : bH P El = some E.k) (hrl : RelL I w (E.fl l) xs)
    (hor : l.length = 0 ∨ ∃ b off, a = some ⟨b, off, none⟩ ∧ Stab I b (off + (E.fl l).length) ∧ ∀ j, j < (E.fl l).length → w.cell? ⟨b, off + j, none⟩ = some (xs.getD j undef)) (h1 : lo ≤ hi) (h2 : hi ≤ l.length) (hm : hi ≤ m) :
    Rel I w (slE E ((l.take hi).drop lo) none) (.slice (if m = lo then a else a.map (·.add (lo * E.k))) (hi - lo) (m - lo)) := by
  by_cases hz : hi - lo = 0
  · have : (l.take hi).drop lo = [] := bn (by simp; omega)
    rw [this, hz]
    exact .slz _ _ _
  · have hlen : ((l.take hi).drop lo).length = hi - lo := by simp; omega
    have hflen : (E.fl ((l.take hi).drop lo)).length = (hi - lo) * E.k := by rw [E.fl_length, hlen]
    rcases hor with h0 | ⟨b, off, rfl, hst, hc⟩
    · omega
    rw [if_neg (by omega)]
    have hfl : (E.fl l).length = l.length * E.k := E.fl_length l
    have hb : lo * E.k + (hi - lo) * E.k ≤ l.length * E.k := by rw [← Nat.add_mul]; exact Nat.mul_le_mul_right _ (by omega)
    rw [Option.map_some, cu]
    refine .sl _ _ _ _ _ _ _ (fun j => xs.getD (lo * E.k + j) undef) E.pos hflen.symm (by omega) (hst.le (by omega)) (fun j hj => ?_) (fun j hj => ?_) (fun t h => by cases h)
    · rw [← hc _ (by omega), Nat.add_assoc]
    · have hj' : lo * E.k + j < (E.fl l).length := by omega
      have h3 : (E.fl ((l.take hi).drop lo))[j] = (E.fl l)[lo * E.k + j] := by
        have h4 : (E.fl ((l.take hi).drop lo))[j]? = (E.fl l)[lo * E.k + j]? := by
          rw [E.fl_drop, E.fl_take, List.getElem?_drop, List.getElem?_take]
          rw [if_pos]
          have : hi * E.k = lo * E.k + (hi - lo) * E.k := by rw [← Nat.add_mul]; congr 1; omega
          omega
        rw [aK hj, aK hj'] at h4
        exact ap h4
      rw [h3]; exact hrl.2 _ hj'
theorem rG {α : Type} {E : Enc α} {l : List α} {t : Option Nat} {q q' : IntKind} {n n' : Int} {hi : Nat} {El T2 : TypeId} (hT : P.underlying T = some (.slice El)) (hsz : bH P El = some E.k) (hx : opv e x = slE E l t)
    (hz : opv e z = .v (.int q n)) (hz2 : opv e z2 = .v (.int q' n')) (hn : n = hi) (hn' : n' = hi) (h2 : hi ≤ l.length) : OpS P ⟨d, .slice T x none (some z) (some z2), T2, pos, after, g⟩ e (slE E (l.take hi) none) := fun I w ρ hρ => by
  obtain ⟨a, cap, xs, e1, hcap, hrl, hor⟩ := iU (hx ▸ hρ x)
  have e3 := bO (hz ▸ hρ z)
  have e4 := bO (hz2 ▸ hρ z2)
  refine ⟨.slice (if hi = 0 then a else a.map (·.add (0 * E.k))) (hi - 0) (hi - 0), ?_, fun w' _ _ => ?_⟩
  · have := vD (m := hi) hsz hrl hor (Nat.zero_le hi) h2 (Nat.le_refl _)
    simpa using this
  · simp only [execOp, e1, e3, e4, Option.map_some, Option.map_none, Instr.sliceAt, Instr.slice, Instr.sliceBounds, run_underlying hT, Sem.run_bind, Sem.run_pure, Result.andThen_ok, Option.isSome_none, Option.isSome_some, Bool.false_eq_true, if_false,
      if_true, fQ hn' (Nat.le_trans h2 hcap), fQ hn (Nat.le_refl hi), bM hsz]
theorem uk {α : Type} {E : Enc α} {l r : List α} {t : Option Nat} {q q' : IntKind} {b : Int} {El T2 : TypeId} (hT : P.underlying T = some (.slice El)) (hsz : bH P El = some E.k) (hx : opv e x = slE E l t)
    (hz : opv e z = .v (.int q b)) (hz2 : opv e z2 = .v (.int q' b)) (hg : gZ b l.length = true) (hr : to_ l b = r) : OpS P ⟨d, .slice T x none (some z) (some z2), T2, pos, after, g⟩ e (slE E r none) := by
  obtain ⟨h1, h2⟩ := tx hg;subst hr;exact rG hT hsz hx hz hz2 (hi := b.toNat) (by omega) (by omega) (by omega)
theorem oP {α : Type} {E : Enc α} {l : List α} {cs : List AV} {len El T2 : Nat} (hk : E.k = 1) (hT : P.underlying T = some (.array len El)) (hsz : bH P El = some 1) (hx : opv e x = .cp cs) (hl : l.length = len) (hc : cs.take len = E.fl l) :
    OpS P ⟨d, .slice T x none none none, T2, pos, after, g⟩ e (slE E l none) := fun I w ρ hρ => by
  have h := hx ▸ hρ x
  generalize e1 : ρ x = v at h
  have hfl : (E.fl l).length = l.length := by rw [E.fl_length, hk, Nat.mul_one]
  cases h with
  | cp cs b off xs hst hx' hr =>
    have hle : l.length ≤ cs.length := by
      have := congrArg List.length hc
      rw [hfl, List.length_take] at this
      omega
    refine ⟨.slice (some ⟨b, off, none⟩) len len, ?_, fun w' _ _ => ?_⟩
    · unfold slE
      refine .sl _ _ _ b off len len xs E.pos (by rw [hk, hfl, hl, Nat.mul_one]) (Nat.le_refl _) (hst.le (by rw [hfl]; omega)) (fun j hj => hx' j (by rw [hfl] at hj; omega)) (fun j hj => ?_) (fun t h => by cases h)
      have hj' : j < cs.length := by rw [hfl] at hj; omega
      have h3 : (E.fl l)[j] = cs[j] := by
        have h4 : (E.fl l)[j]? = cs[j]? := by
          rw [← hc, List.getElem?_take]
          rw [if_pos (by rw [hfl] at hj; omega)]
        rw [aK hj, aK hj'] at h4
        exact ap h4
      rw [h3]; exact hr j hj'
    · simp only [execOp, e1, Option.map_none, Instr.sliceAt, Instr.sliceBounds, Sem.run_bind, Sem.run_pure, Result.andThen_ok, run_underlying hT, Instr.sureAddr, bM hsz]
      simp [cu]
theorem cpyB_len {l b : List UInt8} (h : b.length ≤ l.length) : (cpyB l b).length = l.length := by simp [cpyB]; omega
theorem byte_get {l : List UInt8} {n : Nat} (h : l.length = n) : Enc.byte.fl l = (List.range n).map fun i => u8 (l.getD i 0) := by
  rw [eV]
  refine List.ext_getElem (by simp [h]) fun j h1 h2 => ?_
  have hj : j < l.length := by simpa using h1
  simp [List.getD, hj]
theorem vM {l m r : List UInt8} {cs vs : List AV} {t : Option Nat} {o len cap : Nat} {El T2 T3 : TypeId} (k : Nat) (hT : P.underlying T = some (.slice El)) (hsz : bH P El = some 1) (hx : opv e x = .vw o 0 len cap) (hy : opv e y = slE Enc.byte m t)
    (hA : A[k]? = some (.obj o cs)) (hcs : cs = Enc.byte.fl l) (hlen : l.length = len) (hm : decide (m.length ≤ len) = true) (hr : cpyB l m = r) (hvs : (List.range len).map (fun i => u8 (r.getD i 0)) = vs) :
    OpR P ⟨d, .call ⟨.builtin .copy, #[x, y], #[T, T2]⟩, T3, pos, after, g⟩ e A (i64 m.length) (A.set k (.obj o vs)) := by
  have hm' := of_decide_eq_true hm
  have hl1 : (Enc.byte.fl l).length = l.length := by rw [eV]; simp
  have h := fc (d := d) (T2 := T2) (T3 := T3) (pos := pos) (after := after) (g := g) (E := Enc.byte) hT hsz hx hy hA hm' (by rw [hcs, hl1]; simp [Enc.byte]; omega)
  have : fS cs 0 (Enc.byte.fl m) = vs := by
    rw [← hvs, ← byte_get (by rw [← hr, cpyB_len (by omega)]; exact hlen), ← hr, hcs]
    simp only [fS, List.take_zero, List.nil_append, Nat.zero_add, cpyB, eV, List.map_append, List.map_take, List.map_drop, List.length_map]
    rw [List.take_of_length_le (by simp; omega)]
  rw [this] at h
  exact h
end
end Go.Av
