/-
  Texts in one (only what FeedOthers needs): AvE, AvN, AvOwn, StrPure, PvLib, P11Lib, P11Build, P11Join, P11Split, AvDefer, AvFn, AvLaw, AvCard, AvPan, AvArr, AvStill, AvLoop, AvFor, PvSl, AvHd, AvSl, AvBig, AvTab, AvTv, AvXm, AvStk, AvStg, AvRep, PvO, PvFd, AvFd, LibSW, EntAP.
-/
import Derived.Test.YtkbfjepffpddfaaGreatDoorZFeedOthers1
import Derived.Lib.SplitLaws
import Derived.Lib.IndexMore
import Derived.Lib.Strings
import Derived.Lib.SlTrimSet
import Derived.Lib.Atoi
import Derived.Test.YtkbfjepffpddfaaGreatDoorShelf
import Derived.Recover
import Derived.Below
import Derived.ProofKit
import Derived.HandedShaped
import Derived.Shelf.Vars
import Derived.LaidLaws
import Derived.LaidMore
import Derived.Stop.Joined
import Derived.MakeChecks
import Derived.LoopNIn
import Derived.Laws.MakeOwn
import Derived.RangeFuncLeaves
import Derived.RangeFuncRecord
import Derived.Lib.FieldsP
import Derived.Laws.StructEq
import Derived.Lib.SlFresh
import Derived.Lib.SlParts
import Derived.Shelf.Bytes.SlSmallAll
import Derived.Shelf.Strings.FuncGrows
import Derived.Lib.LaidTab
import Derived.Lib.ItoaNum
import Derived.Lib.AppendIntMem
import Derived.Lib.IndexLaws
import Derived.Test.YtkbfjepffpddfaaGreatDoorChecked
set_option linter.unusedVariables false
set_option linter.unusedSimpArgs false
set_option linter.unusedSectionVars false
namespace Go.Pv
open Go
def cG (n : Int) : List UInt8 := (Utf8.encode n).data.toList
def nq (s : List UInt8) (p : Nat) : Nat × Nat := Utf8.decode ⟨s.toArray⟩ p
end Go.Pv
namespace Go.Av
open Go.RowKit Go.Pv
def kJ (T : TypeId) (k : IntKind) (n : Int) : AV := if n = 0 then .v .nilIface else .ifc T (.v (.int k n))
def eAny (T : TypeId) (n : Int) : AV := if n = 0 then .v .nilIface else .ifc T .any
section
variable {P : Program} {e : Env} {d : Option Nat} {T : TypeId} {pos : String} {after : Array Edge} {g : Option (Nat × Bool)} {x y z : Operand} {av : AV} {T1 T2 T' : TypeId}
def ew : TypeDesc → Bool
  | .interface _ => true
  | _ => false
theorem vV {n : Nat} {t : TypeId} {v : Value} {w : World} {D : TypeDesc} (hT : P.underlying T = some D) (hD : ew D = true) : (Op.equalIn (n + 1) T (.iface t v) .nilIface).run P w = .ok false w := by
  cases D <;> first | (cases hD; done) | simp only [Op.equalIn, Sem.run_bind, run_underlying hT, Result.andThen_ok, Sem.run_pure]
theorem vU {n : Nat} {t : TypeId} {v : Value} {w : World} {D : TypeDesc} (hT : P.underlying T = some D) (hD : ew D = true) : (Op.equalIn (n + 1) T .nilIface (.iface t v)).run P w = .ok false w := by
  cases D <;> first | (cases hD; done) | simp only [Op.equalIn, Sem.run_bind, run_underlying hT, Result.andThen_ok, Sem.run_pure]
theorem vT {n : Nat} {w : World} {D : TypeDesc} (hT : P.underlying T = some D) (hD : ew D = true) : (Op.equalIn (n + 1) T .nilIface .nilIface).run P w = .ok true w := by
  cases D <;> first | (cases hD; done) | simp only [Op.equalIn, Sem.run_bind, run_underlying hT, Result.andThen_ok, Sem.run_pure]
theorem eqn_int {n : Nat} {t : TypeId} {k k' : IntKind} {a b : Int} {w : World} (ht : P.underlying t = some (.int k)) : (Op.equalIn (n + 1) t (.int k' a) (.int k' b)).run P w = .ok (a == b) w := by
  simp [Op.equalIn, run_underlying ht, Result.andThen]
theorem vW {n : Nat} {t : TypeId} {k k' : IntKind} {a b : Int} {w : World} {D : TypeDesc} (hT : P.underlying T = some D) (hD : ew D = true) (ht : P.underlying t = some (.int k)) (hc : (P.info? t).any (·.comparable) = true) :
    (Op.equalIn (n + 1 + 1) T (.iface t (.int k' a)) (.iface t (.int k' b))).run P w = .ok (a == b) w := by
  have h := eqn_int (n := n) (k' := k') (a := a) (b := b) (w := w) ht
  obtain ⟨i, hi, hi2⟩ := (Option.any_eq_true _ _).1 hc
  have hti : (typeInfo t).run P w = .ok i w := by simp [typeInfo, program, hi, Sem.run]
  cases D <;> first | (cases hD; done) | (rw [Op.equalIn]; simp only [Sem.run_bind, run_underlying hT, Result.andThen_ok, Sem.run_pure, ne_eq, not_true_eq_false, if_false, hti, hi2, Bool.not_true, Bool.false_eq_true]; exact h)
theorem xx {t : TypeId} {v : Value} {w : World} {D : TypeDesc} (hT : P.underlying T = some D) (hD : ew D = true) : (Op.equal T (.iface t v) .nilIface).run P w = .ok false w := vV (n := 9999) hT hD
theorem xw {t : TypeId} {v : Value} {w : World} {D : TypeDesc} (hT : P.underlying T = some D) (hD : ew D = true) : (Op.equal T .nilIface (.iface t v)).run P w = .ok false w := vU (n := 9999) hT hD
theorem xv {w : World} {D : TypeDesc} (hT : P.underlying T = some D) (hD : ew D = true) : (Op.equal T .nilIface .nilIface).run P w = .ok true w := vT (n := 9999) hT hD
theorem xy {t : TypeId} {k k' : IntKind} {a b : Int} {w : World} {D : TypeDesc} (hT : P.underlying T = some D) (hD : ew D = true) (ht : P.underlying t = some (.int k)) (hc : (P.info? t).any (·.comparable) = true) :
    (Op.equal T (.iface t (.int k' a)) (.iface t (.int k' b))).run P w = .ok (a == b) w := vW (n := 9998) hT hD ht hc
theorem tN {op : BinOp} {v a b : Value} (h : a = .nilIface ∨ ∃ t y, a = .iface t y) (w : World) : (eqGuard op T x (.const v) a b).run P w = .ok () w := by
  rcases h with rfl | ⟨t, y, rfl⟩
  · cases b <;> cases op <;> simp [eqGuard]
  · cases op <;> simp [eqGuard]
theorem zf {op : BinOp} {a b : Value} {t : TypeId} {v : Value} (hb : b = .iface t v) (h : a = .nilIface ∨ ∃ t y, a = .iface t y) (w : World) : (eqGuard op T x y a b).run P w = .ok () w := by
  subst hb
  rcases h with rfl | ⟨t, y, rfl⟩ <;> cases op <;> simp [eqGuard]
theorem tr {I : Info} {w : World} {t : TypeId} {k : IntKind} {n : Int} {v : Value} (h : Rel I w (kJ t k n) v) : (n = 0 ∧ v = .nilIface) ∨ (n ≠ 0 ∧ v = .iface t (.int k n)) := by
  unfold kJ at h
  by_cases h0 : n = 0
  · rw [if_pos h0] at h; exact .inl ⟨h0, ca h⟩
  · rw [if_neg h0] at h
    cases h with
    | ifc _ _ y hy => exact .inr ⟨h0, by rw [ca hy]⟩
theorem rel_eAny {I : Info} {w : World} {t : TypeId} {n : Int} {v : Value} (h : Rel I w (eAny t n) v) : (n = 0 ∧ v = .nilIface) ∨ (n ≠ 0 ∧ ∃ y, v = .iface t y) := by
  unfold eAny at h
  by_cases h0 : n = 0
  · rw [if_pos h0] at h; exact .inl ⟨h0, ca h⟩
  · rw [if_neg h0] at h
    cases h with
    | ifc _ _ y hy => exact .inr ⟨h0, y, rfl⟩
theorem wt {op : BinOp} {n : Int} {v : Value} {D : TypeDesc} (hop : op = .eql ∨ op = .neq) (hT : P.underlying T = some D) (hD : ew D = true) (h : (n = 0 ∧ v = .nilIface) ∨ (n ≠ 0 ∧ ∃ t y, v = .iface t y)) (ρ : Operand → Value) (e1 : ρ x = v) (h2 : ρ (.const .nilIface) = .nilIface) (w : World) :
    (execOp ρ ⟨d, .binOp op T x (.const .nilIface) T', T2, pos, after, g⟩).run P w = .ok (.value (.bool (if op = .eql then decide (n = 0) else !decide (n = 0)))) w := by
  have hg : (eqGuard op T x (.const .nilIface) v .nilIface).run P w = .ok () w := tN (by rcases h with ⟨_, h⟩ | ⟨_, t, y, h⟩; exact .inl h; exact .inr ⟨t, y, h⟩) w
  have hb : (binOp op T v .nilIface).run P w = .ok (.bool (if op = .eql then decide (n = 0) else !decide (n = 0))) w := by
    rcases h with ⟨h0, rfl⟩ | ⟨h0, t, y, rfl⟩ <;> rcases hop with rfl | rfl <;> simp [binOp, xv hT hD, xx hT hD, h0, Result.andThen]
  simp only [execOp, e1, h2, hg, hb, Sem.run_bind, Sem.run_pure, Result.andThen_ok]
theorem mP {n : Int} {t : TypeId} {k : IntKind} {D : TypeDesc} (hT : P.underlying T = some D) (hD : ew D = true) (hx : opv e x = kJ t k n) : OpS P ⟨d, .binOp .neq T x (.const .nilIface) T', T2, pos, after, g⟩ e (B (!decide (n = 0))) := fun I w ρ hρ =>
  ⟨_, .v _, fun w' _ _ => wt (.inr rfl) hT hD (by rcases tr (hx ▸ hρ x) with h | ⟨h, h2⟩; exact .inl h; exact .inr ⟨h, _, _, h2⟩) ρ rfl (ca (hρ (.const .nilIface))) w'⟩
theorem xr {n : Int} {t : TypeId} {D : TypeDesc} (hT : P.underlying T = some D) (hD : ew D = true) (hx : opv e x = eAny t n) : OpS P ⟨d, .binOp .neq T x (.const .nilIface) T', T2, pos, after, g⟩ e (B (!decide (n = 0))) := fun I w ρ hρ =>
  ⟨_, .v _, fun w' _ _ => wt (.inr rfl) hT hD (by rcases rel_eAny (hx ▸ hρ x) with h | ⟨h, y, h2⟩; exact .inl h; exact .inr ⟨h, _, _, h2⟩) ρ rfl (ca (hρ (.const .nilIface))) w'⟩
theorem Ao {op : BinOp} {n m : Int} {v : Value} {t : TypeId} {k k' : IntKind} {D : TypeDesc} (hop : op = .eql ∨ op = .neq) (hT : P.underlying T = some D) (hD : ew D = true) (ht : P.underlying t = some (.int k')) (hc : (P.info? t).any (·.comparable) = true) (hm : decide (m = 0) = false)
    (h : (n = 0 ∧ v = .nilIface) ∨ (n ≠ 0 ∧ v = .iface t (.int k n))) (ρ : Operand → Value) (e1 : ρ x = v) (h2 : ρ y = .iface t (.int k m)) (w : World) :
    (execOp ρ ⟨d, .binOp op T x y T', T2, pos, after, g⟩).run P w = .ok (.value (.bool (if op = .eql then decide (n = m) else !decide (n = m)))) w := by
  have hm' : m ≠ 0 := of_decide_eq_false hm
  have hg : (eqGuard op T x y v (.iface t (.int k m))).run P w = .ok () w := zf rfl (by rcases h with ⟨_, h⟩ | ⟨_, h⟩; exact .inl h; exact .inr ⟨_, _, h⟩) w
  have hb : (binOp op T v (.iface t (.int k m))).run P w = .ok (.bool (if op = .eql then decide (n = m) else !decide (n = m))) w := by
    rcases h with ⟨h0, rfl⟩ | ⟨h0, rfl⟩
    · have hnm : ¬ n = m := by omega
      rcases hop with rfl | rfl <;> simp [binOp, xw hT hD, hnm, Result.andThen]
    · rcases hop with rfl | rfl <;> simp [binOp, xy hT hD ht hc, Result.andThen] <;> rfl
  simp only [execOp, e1, h2, hg, hb, Sem.run_bind, Sem.run_pure, Result.andThen_ok]
theorem nD {I : Info} {w : World} {t : TypeId} {k : IntKind} {n : Int} {v : Value} (h : Rel I w (.ifc t (.v (.int k n))) v) : v = .iface t (.int k n) := by
  cases h with
  | ifc _ _ y hy => rw [ca hy]
theorem zb {n m : Int} {t : TypeId} {k k' : IntKind} {D : TypeDesc} (hT : P.underlying T = some D) (hD : ew D = true) (ht : P.underlying t = some (.int k')) (hc : (P.info? t).any (·.comparable) = true) (hm : decide (m = 0) = false) (hx : opv e x = kJ t k n) (hy : opv e y = .ifc t (.v (.int k m))) :
    OpS P ⟨d, .binOp .neq T x y T', T2, pos, after, g⟩ e (B (!decide (n = m))) := fun I w ρ hρ =>
  ⟨_, .v _, fun w' _ _ => Ao (.inr rfl) hT hD ht hc hm (tr (hx ▸ hρ x)) ρ rfl (nD (hy ▸ hρ y)) w'⟩
theorem oX {k : IntKind} {n : Int} {r : List UInt8} {src dst : TypeId} {ks : IntKind} (hs : P.underlying src = some (.int ks)) (hd : P.underlying dst = some .string) (hx : opv e x = .v (.int k n)) (he : cG n = r) :
    OpS P ⟨d, .convert src dst x, T, pos, after, g⟩ e (S r) := fun I w ρ hρ => by
  have h1 := ca (hx ▸ hρ x)
  subst he;refine ⟨_, .v _, fun w' _ _ => ?_⟩
  simp [execOp, h1, convert, run_underlying hs, run_underlying hd, Conv.intToString, cG, Result.andThen]
theorem wC {A : List Chunk} {s : List UInt8} {o i p : Nat} (hx : opv e x = .pt o 0) (hA : A[i]? = some (.iter o s p)) (hp : decide (p < s.length) = true) :
    OpR P ⟨d, .next x true, T, pos, after, g⟩ e A (.tup [B true, i64 p, .v (.int .i32 (nq s p).1)]) (A.set i (.iter o s (p + (nq s p).2))) := sN hx hA (of_decide_eq_true hp)
theorem wD {A : List Chunk} {s : List UInt8} {o i p : Nat} (hx : opv e x = .pt o 0) (hA : A[i]? = some (.iter o s p)) (hp : decide (p < s.length) = false) :
    OpR P ⟨d, .next x true, T, pos, after, g⟩ e A (.tup [B false]) A := sO hx hA (of_decide_eq_false hp)
theorem wp (a : UInt8) : BitVec.ofInt 8 (a.toNat : Int) = a.toBitVec := by
  rw [BitVec.ofInt_natCast]
  apply BitVec.eq_of_toNat_eq
  rw [BitVec.toNat_ofNat]
  have := a.toNat_lt
  show a.toNat % 2 ^ 8 = a.toNat
  omega
theorem wU (a : UInt8) : IntKind.u8.wrap (a.toNat : Int) = a.toNat := by rw [wrap_u8]; have := a.toNat_lt; omega
theorem or8_eq (a b : UInt8) : IntKind.u8.wrap ((BitVec.ofInt IntKind.u8.bits (a.toNat : Int) ||| BitVec.ofInt IntKind.u8.bits (b.toNat : Int)).toNat : Int) = ((a ||| b).toNat : Int) := by
  show IntKind.u8.wrap ((BitVec.ofInt 8 (a.toNat : Int) ||| BitVec.ofInt 8 (b.toNat : Int)).toNat : Int) = _
  rw [wp, wp, ← UInt8.toBitVec_or]
  exact wU _
theorem g_or8 {a b : UInt8} (hx : opv e x = u8 a) (hy : opv e y = u8 b) : OpS P ⟨d, .binOp .or T x y T', T2, pos, after, g⟩ e (u8 (a ||| b)) :=
  fe (opS_or hx hy) (by rw [or8_eq])
end
end Go.Av
namespace Go.Av
open Go.RowKit Go.Pv
section
variable {P : Program} {ro : Option Nat} {N : Nat} {Q : ff} {ops : Array Oper} {l : List Nat} {e : Env} {ds : List ADef} {A : List Chunk}
end
section
variable {P : Program} {e : Env} {d : Option Nat} {T : TypeId} {pos : String} {after : Array Edge} {g : Option (Nat × Bool)} {x : Operand} {A : List Chunk}
def isAgg : AV → Bool
  | .agg _ => true
  | _ => false
theorem vh {a : AV} (h : isAgg a = true) : ∃ cs, a = .agg cs := by
  cases a <;> first | exact ⟨_, rfl⟩ | cases h
def rq (e : Env) (parts : List (Nat × Operand)) : Bool := parts.all fun p => bA (opv e p.2) || isAgg (opv e p.2)
theorem cP {parts : Array (Nat × Operand)} {zs : List Value} {ps : List (Nat × Nat)} {cs : List AV} {T2 : TypeId} (hi : oV P T = some (zs, ps))
    (hok : rq e parts.toList = true) (hf : rg ps (zs.map .v) (parts.toList.map fun p => (p.1, opv e p.2)) = some cs) : OpS P ⟨d, .build T parts, T2, pos, after, g⟩ e (.agg cs) :=
  yR hi (fun p hp => by
    have h := List.all_eq_true.1 hok p hp
    cases hc : bA (opv e p.2) with
    | true => exact .inl rfl
    | false => rw [hc, Bool.false_or] at h; exact .inr (vh h)) hf
end
section
variable {P : Program} {ro : Option Nat} {N : Nat} {Q : ff} {ops : Array Oper}
theorem AI.gone {fuel : Nat} {listed : Array Bool} {i j t : Nat} {o : Oper} {want b : Bool} {s : St} (hr : Region.ready .any ops listed = [i]) (ho : ops[i]? = some o) (hg : o.guard = some (j, want))
    (hj : (ops[j]?).bind (·.dst) = some t) (hb : ev s.env t = .v (.bool b)) (ht : Nat.blt t N = true) (hw : b = want)
    (h : AIO P ro N ops Q fuel (listed.setIfInBounds i true) o s) : AI P ro N ops Q (fuel + 1) listed s := fun hp F I0 w0 I w a E hI hS => by
  refine ⟨fun h0 => (by rw [hr] at h0; cases h0), fun k hk => ?_⟩
  rw [hr] at hk
  simp at hk
  subst hk;obtain ⟨e, ds, A⟩ := s
  have hy := qg (ops := ops) hS hj hb ht
  have hwant : Region.wanted o (yielded ops a.tmps) = true := by simp only [Region.wanted, hg, hy, hw]; cases want <;> rfl
  unfold Go.wpOpIn
  simp only [ho, hwant, if_true]
  exact h hp (hp _ o ho) F I0 w0 I w a E hI hS
theorem AI.meet {e : Env} {ds : List ADef} {A : List Chunk} {fuel0 : Nat} {listed0 : Array Bool} (fuel : Nat) (listed : Array Bool) (d : Nat) (av : AV)
    (k : (∀ (r : Env) (m : Nat), r.drop m = e → fresh ((r.take m).map Prod.fst) e = true → AI P ro N ops Q fuel listed ⟨(d, av) :: r, ds, A⟩) → AI P ro N ops Q fuel0 listed0 ⟨e, ds, A⟩)
    (h : AI P ro N ops Q fuel listed ⟨(d, av) :: e, ds, A⟩) : AI P ro N ops Q fuel0 listed0 ⟨e, ds, A⟩ :=
  k fun r m hr hf => fun hp F I0 w0 I w a E hI hS => h hp F I0 w0 I w a E hI ⟨hS.size, fun t => by
    have ht := hS.env t
    have hre : r = r.take m ++ e := by rw [← hr, List.take_append_drop]
    generalize r.take m = pre at hf hre
    subst hre
    simp only [ev] at ht ⊢
    cases hb : Nat.beq d t with
    | true => rw [hb] at ht; exact ht
    | false =>
      rw [hb] at ht
      simp only at ht ⊢
      by_cases hm : ∃ p ∈ pre, p.1 = t
      · obtain ⟨p, hp, rfl⟩ := hm
        have : ev e p.1 = .any := by
          clear ht hS hI h k hr
          induction e with
          | nil => rfl
          | cons q e ih =>
            obtain ⟨j, b⟩ := q
            simp only [fresh, List.all_cons, Bool.and_eq_true, Bool.not_eq_true'] at hf
            have hj : j ≠ p.1 := fun e => by
              have := hf.1
              rw [e] at this
              have h2 : (pre.map Prod.fst).contains p.1 = true := by simpa using ⟨p.2, hp⟩
              rw [h2] at this; cases this
            simp only [ev]
            have hb : Nat.beq j p.1 = false := by
              cases hb : Nat.beq j p.1 with
              | false => rfl
              | true => exact absurd (Nat.eq_of_beq_eq_true hb) hj
            rw [hb]
            exact ih hf.2
        rw [this]; exact .any _
      · rw [← kB pre t (fun p hp e => hm ⟨p, hp, e⟩)]; exact ht, hS.ds⟩
end
end Go.Av
namespace Go.Av
open Go.RowKit Go.Pv
def Info.stillN (I : Info) (b n : Nat) : Info := { I with ext := fun x => if x = b then some n else I.ext x }
theorem Inv.other {I : Info} {A : List Chunk} {w : World} {c : Chunk} {b : Nat} (h : Inv I (c :: A) w) (hc : c.blk I = some b) : ∀ d ∈ A, ∀ b', d.blk I = some b' → b' ≠ b := by
  intro d hd b' hb' e;subst e
  have hn := h.nodup
  rw [List.filterMap_cons, hc] at hn
  exact (List.nodup_cons.1 hn).1 (List.mem_filterMap.2 ⟨d, hd, hb'⟩)
theorem Inv.freeze {I : Info} {A : List Chunk} {w : World} {o : Nat} {cs : List AV} (h : Inv I (.obj o cs :: A) w) (n : Nat) (hn : n ≤ cs.length) :
    ∃ I', Ext I w I' w ∧ Inv I' A w ∧ ∀ cap v, n ≤ cap → Rel I w (.vw o 0 n cap) v → Rel I' w (.sl 1 (cs.take n) none) v := by
  obtain ⟨b, arr, ho, he, hca, hrl⟩ := h.holds _ (List.mem_cons_self ..)
  have hbl : (Chunk.obj o cs).blk I = some b := ho
  have E : Ext I w (I.stillN b n) w := by
    refine ⟨rfl, rfl, rfl, Nat.le_refl _, fun b' hb' => ⟨rfl, ?_⟩, fun _ _ _ => rfl, fun b' m hs => ?_, fun _ _ x => x, fun _ _ x => x, fun _ _ x => x⟩
    · simp only [Info.stillN]
      rw [if_neg]
      · exact hb'
      · rintro rfl; rw [he] at hb'; cases hb'
    · intro q hq
      simp only [Info.stillN] at hq
      by_cases e : b' = b
      · subst e
        have := hs 0 he
        omega
      · rw [if_neg e] at hq; exact hs q hq
  refine ⟨I.stillN b n, E, ?_, ?_⟩
  · have hA : Inv I A w := h.sub (List.sublist_cons_self ..)
    refine hA.keep E (fun c hc b' hb' => ⟨rfl, ?_⟩) (fun b' hb' => ?_) h.ids
    · simp only [Info.stillN]; rw [if_neg (h.other hbl c hc b' hb')]
    · have hlt := hca.lt
      simp only [Info.stillN]; rw [if_neg (by omega)]; exact h.fresh b' hb'
  · intro cap v hcap hv
    cases hv with
    | vw o off len cap b' ho' =>
      rw [ho] at ho'; cases ho'
      have hlen : arr.length = cs.length := hrl.1
      have htk : (cs.take n).length = n := by simp; omega
      refine .sl 1 _ none b 0 n cap (fun j => arr.getD j undef) Nat.one_pos (by rw [htk, Nat.mul_one]) hcap ?_ ?_ ?_ (fun t' e => by cases e)
      · intro q hq
        simp only [Info.stillN, if_true, Option.some.injEq] at hq
        omega
      · intro j hj
        rw [Nat.zero_add, hca.cell, List.getD, aI (by omega)]; rfl
      · intro j hj
        have := (hrl.2 j (by omega)).mono E
        simpa using this
section
variable {P : Program} {ro : Option Nat} {N : Nat} {Q : ff}
end
section
variable {P : Program} {e : Env} {d : Option Nat} {T : TypeId} {pos : String} {after : Array Edge} {g : Option (Nat × Bool)} {x y z : Operand} {av : AV} {A : List Chunk}
end
section
variable {P : Program} {I : Info} {w : World}
end
section
variable {P : Program} {e : Env} {d : Option Nat} {T : TypeId} {pos : String} {after : Array Edge} {g : Option (Nat × Bool)} {x y z : Operand} {av : AV} {A : List Chunk}
end
section
variable {P : Program} {e : Env} {d : Option Nat} {T T2 : TypeId} {pos : String} {after : Array Edge} {g : Option (Nat × Bool)} {x y z : Operand} {av : AV} {A : List Chunk}
end
section
variable {P : Program} {e : Env} {d : Option Nat} {T : TypeId} {pos : String} {after : Array Edge} {g : Option (Nat × Bool)} {x y z : Operand} {av : AV} {A : List Chunk}
end
section
variable {P : Program} {ro : Option Nat} {N : Nat} {Q : ff}
end
end Go.Av
namespace Go.Av.Str
def rest (sep : List UInt8) : List (List UInt8) → List UInt8
  | [] => []
  | x :: r => sep ++ x ++ rest sep r
def join (sep : List UInt8) : List (List UInt8) → List UInt8
  | [] => []
  | x :: r => x ++ rest sep r
def total : List (List UInt8) → Nat
  | [] => 0
  | x :: r => x.length + total r
theorem total_drop (l : List (List UInt8)) (i : Nat) (h : i < l.length) : total (l.drop i) = l[i].length + total (l.drop (i + 1)) := by
  rw [aZ h]; rfl
theorem rest_drop (sep : List UInt8) (l : List (List UInt8)) (i : Nat) (h : i < l.length) : rest sep (l.drop i) = sep ++ l[i] ++ rest sep (l.drop (i + 1)) := by
  rw [aZ h]; rfl
theorem rest_end (sep : List UInt8) (l : List (List UInt8)) (i : Nat) (h : l.length ≤ i) : rest sep (l.drop i) = [] := by
  rw [bc h]; rfl
theorem qC (sep : List UInt8) : ∀ l, (rest sep l).length = sep.length * l.length + total l
  | [] => by simp [rest, total]
  | x :: r => by
    have := qC sep r
    simp only [rest, total, List.length_append, List.length_cons, Nat.mul_succ]; omega
theorem join_at (sep : List UInt8) (l : List (List UInt8)) (h : 0 < l.length) : join sep l = l[0] ++ rest sep (l.drop 1) := by
  cases l with
  | nil => simp at h
  | cons x r => rfl
theorem join_one (sep : List UInt8) (l : List (List UInt8)) (h : l.length = 1) (h0 : 0 < l.length) : join sep l = l[0] := by
  rw [join_at sep l h0, rest_end _ _ _ (by omega), List.append_nil]
theorem mul_bounds (a b N : Nat) (h : a * b ≤ N) (hb : 1 ≤ b) : 0 ≤ (a : Int) * ((b : Int) - 1) ∧ (a : Int) * ((b : Int) - 1) ≤ N := by
  have h1 : ((a * (b - 1) : Nat) : Int) = (a : Int) * ((b : Int) - 1) := by rw [Int.natCast_mul, Int.natCast_sub hb]; rfl
  rw [← h1]
  have h2 : a * (b - 1) ≤ a * b := Nat.mul_le_mul_left _ (by omega)
  omega
theorem quo_great (a b N : Nat) (h : a * b ≤ 1000000000) (hb : 2 ≤ b) (hb2 : b ≤ 1000000000) : ¬ (9223372036854775807 / ((b : Int) - 1) ≤ (a : Int)) := by
  intro h1
  have hp : (0 : Int) < (b : Int) - 1 := by omega
  have h2 : (9223372036854775807 : Int) < ((a : Int) + 1) * ((b : Int) - 1) := by
    have := Int.lt_ediv_add_one_mul_self 9223372036854775807 hp
    have h3 : ((9223372036854775807 / ((b : Int) - 1)) + 1) * ((b : Int) - 1) ≤ ((a : Int) + 1) * ((b : Int) - 1) := Int.mul_le_mul_of_nonneg_right (by omega) (by omega)
    omega
  have h4 := (mul_bounds a b 1000000000 h (by omega)).2
  rw [Int.add_mul, Int.one_mul] at h2
  omega
theorem qF (sep : List UInt8) (l : List (List UInt8)) : (join sep l).length ≤ sep.length * l.length + total l := by
  cases l with
  | nil => simp [join]
  | cons x r =>
    simp only [join, List.length_append, qC, List.length_cons, total]
    have : sep.length * r.length ≤ sep.length * (r.length + 1) := Nat.mul_le_mul_left _ (by omega)
    omega
theorem room (sep out : List UInt8) (l : List (List UInt8)) (i : Nat) (h : i < l.length) (h2 : out ++ rest sep (l.drop i) = join sep l) (hb : sep.length * l.length + total l ≤ 1000000000) : out.length + sep.length + l[i].length ≤ 1000000000 := by
  have h3 := congrArg List.length h2
  have h4 := qF sep l
  rw [rest_drop sep l i h] at h3
  simp only [List.length_append] at h3
  omega
theorem out_room (sep out r : List UInt8) (l : List (List UInt8)) (h2 : out ++ r = join sep l) (hb : sep.length * l.length + total l ≤ 1000000000) : out.length ≤ 1000000000 := by
  have h3 := congrArg List.length h2
  have h4 := qF sep l
  simp only [List.length_append] at h3
  omega
theorem mul_cast (a b : Nat) (hb : 1 ≤ b) : 0 + (a : Int) * ((b : Int) - 1) = ((a * (b - 1) : Nat) : Int) := by
  rw [Int.natCast_mul, Int.natCast_sub hb, Int.zero_add]; rfl
end Go.Av.Str
namespace Go.Pv
open Go.Av
def okS (n : Nat) : Bool := decide (n < 4294967281)
def pb (l : List (List UInt8)) (sep : List UInt8) : Bool := decide (sep.length * l.length + Str.total l ≤ 1000000000 ∧ l.length ≤ 1000000000)
def okW (l s : List UInt8) : Bool := decide (l.length + s.length ≤ 1000000000)
theorem nb {n : Nat} (h : okS n = true) : n < 4294967281 := of_decide_eq_true h
theorem pI {l : List (List UInt8)} {sep : List UInt8} (h : pb l sep = true) : sep.length * l.length + Str.total l ≤ 1000000000 ∧ l.length ≤ 1000000000 := of_decide_eq_true h
theorem wQ {l s : List UInt8} (h : okW l s = true) : l.length + s.length ≤ 1000000000 := of_decide_eq_true h
theorem okW0_s {l : List UInt8} (h : okW l [] = true) : l.length ≤ 1000000000 := by have := wQ h; simpa using this
section
variable {ρ : Type} {k : Option ρ}
theorem mr {n : Nat} (h : n < 4294967281) : grd (okS n) k = k := by rw [okS, decide_eq_true h]; rfl
theorem grd_Join {l : List (List UInt8)} {sep : List UInt8} (h : sep.length * l.length + Str.total l ≤ 1000000000 ∧ l.length ≤ 1000000000) : grd (pb l sep) k = k := by rw [pb, decide_eq_true h]; rfl
theorem rf {l s : List UInt8} (h : l.length + s.length ≤ 1000000000) : grd (okW l s) k = k := by rw [okW, decide_eq_true h]; rfl
end
def jf (l : List UInt8) : Bool := l.all fun b => decide (b.toNat < 128)
theorem sh {l : List UInt8} (h : jf l = true) : ∀ (j : Nat) b, l[j]? = some b → b.toNat < 128 := fun j b hj => of_decide_eq_true (List.all_eq_true.1 h b (List.mem_of_getElem? hj))
def trimPrefix (s p : List UInt8) : List UInt8 := if p.isPrefixOf s then s.drop p.length else s
end Go.Pv
namespace Go.Proofs.YtkbfjepffpddfaaGreatDoor
open Go.RowKit Go.Av
theorem lib_Cut (s sep : List UInt8) (hs : s.length < 4294967281) : ACalls Tryz.prog 62 [S s, S sep] [] (Ret (.tup [S (Go.Lib.cut s sep).1, S (Go.Lib.cut s sep).2.1, B (Go.Lib.cut s sep).2.2]) []) := by
  refine kE (rs := [.string ⟨(Go.Lib.cut s sep).1.toArray⟩, .string ⟨(Go.Lib.cut s sep).2.1.toArray⟩, .bool (Go.Lib.cut s sep).2.2]) rfl fun I A w vs hI hv => ?_
  obtain ⟨v1, r1, rfl, h1, hv⟩ := hv.out_cons;obtain ⟨v2, r2, rfl, h2, hv⟩ := hv.out_cons
  rw [hv.out_nil, kG h1, kG h2]
  obtain ⟨m, hm⟩ := tE hI (g := 0) (k := .i64) (r := []) rfl
  refine (Tryz.strings_Cut ⟨s.toArray⟩ ⟨sep.toArray⟩ m w (by simpa [ByteArray.size] using hs) hm).mono fun e w' ⟨he, n, hw⟩ => ⟨by simpa using he, hw ▸ Below.drewN _ _⟩
theorem eX (s : List UInt8) (c : UInt8) : ACalls Tryz.prog 44 [S s, u8 c] [] (Ret (i64 (Go.Lib.indexByte s c)) []) := by
  refine ga fun I A w vs hI hv => ?_
  obtain ⟨v1, r1, rfl, h1, hv⟩ := hv.out_cons;obtain ⟨v2, r2, rfl, h2, hv⟩ := hv.out_cons
  rw [hv.out_nil, kG h1, ca h2]
  refine (Tryz.strings_IndexByte ⟨s.toArray⟩ c.toNat w).mono fun e w' ⟨he, hw⟩ => ⟨by simpa using he, hw ▸ Below.refl _ _⟩
end Go.Proofs.YtkbfjepffpddfaaGreatDoor
namespace Go.Proofs.YtkbfjepffpddfaaGreatDoor
open Go.RowKit Go.Av
theorem en28 : ∀ (args : Array Value) (w : World), (callFunc 28 args).run Tryz.prog w = .ok (.enter 28 args) w := fun _ _ => by kernel_rfl
theorem en17 : ∀ (args : Array Value) (w : World), (callFunc 17 args).run Tryz.prog w = .ok (.enter 17 args) w := fun _ _ => by kernel_rfl
theorem en19 : ∀ (args : Array Value) (w : World), (callFunc 19 args).run Tryz.prog w = .ok (.enter 19 args) w := fun _ _ => by kernel_rfl
theorem en45 : ∀ (args : Array Value) (w : World), (callFunc 45 args).run Tryz.prog w = .ok (.enter 45 args) w := fun _ _ => by kernel_rfl
theorem en59 : ∀ (args : Array Value) (w : World), (callFunc 59 args).run Tryz.prog w = .ok (.enter 59 args) w := fun _ _ => by kernel_rfl
abbrev _root_.Go.Av.bh := @Tryz.underlying49
set_option maxRecDepth 100000 in
set_option maxHeartbeats 1000000 in
theorem om (o : Nat) (b : AV) :
    ACalls Tryz.prog 28 [.pt o 0] [.obj o [.v (.pointer none), b], .ty o 51] (Ret (.tup []) [.obj o [.pt o 0, b], .ty o 51]) := by
  refine ap Tryz.func28 rfl rfl ?_;show AW _ _ 20 _ _ _;refine af <| aa ?_;show AR _ _ _ _ _ [0, 1, 2, 3, 4] _;refine am rfl rfl ?_
  first | (refine aw rfl rfl (ah (av := .pt _ _) rfl) ?_) | (refine aw rfl rfl (ah (av := .cp _) rfl) ?_) | (refine aw rfl rfl (ah (av := .v _) rfl) ?_)
  refine am rfl rfl ?_
  first | (refine aw rfl rfl (ar rfl) ?_) | (refine aw rfl rfl (bq rfl) ?_) | (refine aw rfl rfl (bp rfl) ?_)
  refine am rfl rfl <| aw rfl rfl (an (n := 0) (by kernel_rfl) rfl) <| am rfl rfl ?_
  first | refine aw rfl rfl (aL bh rfl rfl) ?_ | refine ck rfl rfl (ao (i := 0) bh rfl rfl rfl rfl) ?_ | refine ck rfl rfl (ao (i := 1) bh rfl rfl rfl rfl) ?_
  refine am rfl rfl ?_
  first | (refine aw rfl rfl (pu bh rfl rfl) ?_) | (refine aw rfl rfl (oI bh rfl rfl) ?_)
  refine ag <| ax rfl (fun c1 => ?_) (fun c1 => ?_)
  · have c1p := c1; try simp only [decide_eq_true_eq, decide_eq_false_iff_not, Bool.not_eq_true', Bool.not_eq_false', Bool.not_true, Bool.not_false, Bool.not_eq_eq_eq_not] at c1p
    refine aa ?_;show AR _ _ _ _ _ [0, 1, 2, 3, 4, 5, 6, 7] _;refine am rfl rfl ?_
    first | (refine aw rfl rfl (ah (av := .pt _ _) rfl) ?_) | (refine aw rfl rfl (ah (av := .cp _) rfl) ?_) | (refine aw rfl rfl (ah (av := .v _) rfl) ?_)
    refine am rfl rfl ?_
    first | (refine aw rfl rfl (ah (av := .pt _ _) rfl) ?_) | (refine aw rfl rfl (ah (av := .cp _) rfl) ?_) | (refine aw rfl rfl (ah (av := .v _) rfl) ?_)
    refine am rfl rfl ?_
    first | (refine ck rfl rfl (oJ (i := 0) (k := 2) bh Tryz.underlying88 (by kernel_rfl) (by decide) rfl rfl ?h1) ?_; (case h1 => (simp))) | (refine ck rfl rfl (oJ (i := 1) (k := 2) bh Tryz.underlying88 (by kernel_rfl) (by decide) rfl rfl ?h2) ?_; (case h2 => (simp)))
    refine am rfl rfl <| aw rfl rfl (vM (a := .pt _ _) Tryz.func43 ⟨by kernel_rfl, by kernel_rfl, by kernel_rfl, by kernel_rfl⟩ rfl) <| am rfl rfl ?_
    first | refine ck rfl rfl (mW (i := 0) (j := 1) (k := 2) Tryz.underlying88 bh (by kernel_rfl) rfl rfl rfl (by kernel_rfl)) ?_ | refine ck rfl rfl (mW (i := 1) (j := 0) (k := 2) Tryz.underlying88 bh (by kernel_rfl) rfl rfl rfl (by kernel_rfl)) ?_
    refine am rfl rfl ?_
    first | (refine aw rfl rfl (ar rfl) ?_) | (refine aw rfl rfl (bq rfl) ?_) | (refine aw rfl rfl (bp rfl) ?_)
    refine am rfl rfl <| aw rfl rfl (an (n := 0) (by kernel_rfl) rfl) <| am rfl rfl ?_
    first | (refine cY rfl (aq (i := 0) (c := .pt _ _) (by kernel_rfl) rfl rfl rfl rfl ?h4) ?_; (case h4 => (simp))) | (refine cY rfl (aq (i := 0) (c := .cp _) (by kernel_rfl) rfl rfl rfl rfl ?h5) ?_; (case h5 => (simp))) | (refine cY rfl (aq (i := 0) (c := .v _) (by kernel_rfl) rfl rfl rfl rfl ?h6) ?_; (case h6 => (simp))) | (refine cY rfl (aq (i := 1) (c := .pt _ _) (by kernel_rfl) rfl rfl rfl rfl ?h7) ?_; (case h7 => (simp))) | (refine cY rfl (aq (i := 1) (c := .cp _) (by kernel_rfl) rfl rfl rfl rfl ?h8) ?_; (case h8 => (simp))) | (refine cY rfl (aq (i := 1) (c := .v _) (by kernel_rfl) rfl rfl rfl rfl ?h9) ?_; (case h9 => (simp)))
    refine ag ?_
    -- END 1 (end)
    show cM _ _ _ _ .normal _
    (refine ⟨rfl, _, _, bj rfl, ?_, ⟨rfl, rfl⟩⟩; all_goals first | exact bG _ | exact ba _ | ((repeat (first | exact bG _ | exact ba _ | refine fo _ ?_ | refine fm _ ?_)); done) | exact Wv.refl _ | exact Wv.tok _ _ _ | exact Wv.nil _)
  · exact absurd c1 (by decide)
set_option maxRecDepth 100000 in
set_option maxHeartbeats 1000000 in
theorem oh (o : Nat) (b : AV) :
    ACalls Tryz.prog 28 [.pt o 0] [.obj o [.pt o 0, b], .ty o 51] (Ret (.tup []) [.obj o [.pt o 0, b], .ty o 51]) := by
  refine ap Tryz.func28 rfl rfl ?_;show AW _ _ 20 _ _ _;refine af <| aa ?_;show AR _ _ _ _ _ [0, 1, 2, 3, 4] _;refine am rfl rfl ?_
  first | (refine aw rfl rfl (ah (av := .pt _ _) rfl) ?_) | (refine aw rfl rfl (ah (av := .cp _) rfl) ?_) | (refine aw rfl rfl (ah (av := .v _) rfl) ?_)
  refine am rfl rfl ?_
  first | (refine aw rfl rfl (ar rfl) ?_) | (refine aw rfl rfl (bq rfl) ?_) | (refine aw rfl rfl (bp rfl) ?_)
  refine am rfl rfl <| aw rfl rfl (an (n := 0) (by kernel_rfl) rfl) <| am rfl rfl ?_
  first | refine aw rfl rfl (aL bh rfl rfl) ?_ | refine ck rfl rfl (ao (i := 0) bh rfl rfl rfl rfl) ?_ | refine ck rfl rfl (ao (i := 1) bh rfl rfl rfl rfl) ?_
  refine am rfl rfl ?_
  first | (refine aw rfl rfl (pu bh rfl rfl) ?_) | (refine aw rfl rfl (oI bh rfl rfl) ?_)
  refine ag <| ax rfl (fun c1 => ?_) (fun c1 => ?_)
  · exact absurd c1 (by decide)
  · have c1p := c1; try simp only [decide_eq_true_eq, decide_eq_false_iff_not, Bool.not_eq_true', Bool.not_eq_false', Bool.not_true, Bool.not_false, Bool.not_eq_eq_eq_not] at c1p
    refine af <| aa ?_;show AR _ _ _ _ _ [0, 1, 2, 3, 4, 5] _;refine am rfl rfl ?_
    first | (refine aw rfl rfl (ah (av := .pt _ _) rfl) ?_) | (refine aw rfl rfl (ah (av := .cp _) rfl) ?_) | (refine aw rfl rfl (ah (av := .v _) rfl) ?_)
    refine am rfl rfl ?_
    first | (refine aw rfl rfl (ar rfl) ?_) | (refine aw rfl rfl (bq rfl) ?_) | (refine aw rfl rfl (bp rfl) ?_)
    refine am rfl rfl <| aw rfl rfl (an (n := 0) (by kernel_rfl) rfl) <| am rfl rfl ?_
    first | refine aw rfl rfl (aL bh rfl rfl) ?_ | refine ck rfl rfl (ao (i := 0) bh rfl rfl rfl rfl) ?_ | refine ck rfl rfl (ao (i := 1) bh rfl rfl rfl rfl) ?_
    refine am rfl rfl ?_
    first | (refine aw rfl rfl (ah (av := .pt _ _) rfl) ?_) | (refine aw rfl rfl (ah (av := .cp _) rfl) ?_) | (refine aw rfl rfl (ah (av := .v _) rfl) ?_)
    refine am rfl rfl ?_
    first | (refine aw rfl rfl (uK bh rfl rfl) ?_) | (refine aw rfl rfl (sI bh rfl rfl) ?_) | (refine aw rfl rfl (vN (k := 2) bh (by kernel_rfl) (by decide) rfl rfl) ?_)
    refine ag <| ax rfl (fun c2 => ?_) (fun c2 => ?_)
    · have c2p := c2; try simp only [decide_eq_true_eq, decide_eq_false_iff_not, Bool.not_eq_true', Bool.not_eq_false', Bool.not_true, Bool.not_false, Bool.not_eq_eq_eq_not] at c2p
      exfalso; first | omega | simp_all
    · have c2p := c2; try simp only [decide_eq_true_eq, decide_eq_false_iff_not, Bool.not_eq_true', Bool.not_eq_false', Bool.not_true, Bool.not_false, Bool.not_eq_eq_eq_not] at c2p
      refine aC ?_
      -- END 1 (end)
      show cM _ _ _ _ .normal _
      (refine ⟨rfl, _, _, bj rfl, ?_, ⟨rfl, rfl⟩⟩; all_goals first | exact bG _ | exact ba _ | ((repeat (first | exact bG _ | exact ba _ | refine fo _ ?_ | refine fm _ ?_)); done) | exact Wv.refl _ | exact Wv.tok _ _ _ | exact Wv.nil _)
theorem iy (o : Nat) (a b : AV) (ha : a = .v (.pointer none) ∨ a = .pt o 0) : ACalls Tryz.prog 28 [.pt o 0] [.obj o [a, b], .ty o 51] (Ret (.tup []) [.obj o [.pt o 0, b], .ty o 51]) := by
  rcases ha with rfl | rfl
  · exact om  o b
  · exact oh  o b
abbrev _root_.Go.Av.al := @Tryz.underlying30
abbrev _root_.Go.Av.ai := @Tryz.underlying9
set_option maxRecDepth 100000 in
set_option maxHeartbeats 1000000 in
theorem cC (o : Nat) (a : AV) (ha : a = .v (.pointer none) ∨ a = .pt o 0) (l s : List UInt8) (t : Nat) (hl : l.length + s.length ≤ 1000000000) :
    ACalls Tryz.prog 17 [.pt o 0, S s] [.obj o [a, slE Enc.byte l (some t)], .ty o 51, .tok t 5] (fun e A' => e = .ret (.tup [i64 s.length, .v .nilIface]) ∧ ∃ t', A' = [.obj o [.pt o 0, slE Enc.byte (l ++ s) (some t')], .ty o 51, .tok t' 5]) := by
  refine ap Tryz.func17 rfl rfl ?_;show AW _ _ 19 _ _ _;refine af <| aa ?_;show AR _ _ _ _ _ [0, 1] _;refine am rfl rfl <| aw rfl rfl (aH (av := .v _) rfl) <| am rfl rfl <| aw rfl rfl (aH (av := .v _) rfl) <| ag <| af <| aa ?_;show AR _ _ _ _ _ [0, 1] _;refine am rfl rfl ?_
  first | (refine aw rfl rfl (ah (av := .pt _ _) rfl) ?_) | (refine aw rfl rfl (ah (av := .cp _) rfl) ?_) | (refine aw rfl rfl (ah (av := .v _) rfl) ?_)
  refine am rfl rfl <| AO.call [.tok t 5] rfl en28 rfl (iy  o a (slE Enc.byte l (some t)) ha) ?p1 ?k1 ?q1
  (case p1 => (exact bu _))
  (case q1 => (rintro c A' ⟨h, _⟩; cases h))
  rintro av A' ⟨h, rfl⟩; cases h
  refine ag <| af <| aa ?_;show AR _ _ _ _ _ [0, 1, 2, 3, 4, 5, 6, 7, 8, 9] _;refine am rfl rfl ?_
  first | (refine aw rfl rfl (ah (av := .pt _ _) rfl) ?_) | (refine aw rfl rfl (ah (av := .cp _) rfl) ?_) | (refine aw rfl rfl (ah (av := .v _) rfl) ?_)
  refine am rfl rfl ?_
  first | (refine aw rfl rfl (ah (av := .pt _ _) rfl) ?_) | (refine aw rfl rfl (ah (av := .cp _) rfl) ?_) | (refine aw rfl rfl (ah (av := .v _) rfl) ?_)
  refine am rfl rfl ?_
  first | (refine aw rfl rfl (ar rfl) ?_) | (refine aw rfl rfl (bq rfl) ?_) | (refine aw rfl rfl (bp rfl) ?_)
  refine am rfl rfl <| aw rfl rfl (an (n := 1) (by kernel_rfl) rfl) <| am rfl rfl ?_
  first | refine aw rfl rfl (aL al rfl rfl) ?_ | refine ck rfl rfl (ao (i := 0) al rfl rfl rfl rfl) ?_ | refine ck rfl rfl (ao (i := 1) al rfl rfl rfl rfl) ?_
  refine am rfl rfl <| aw rfl rfl (ah (av := .v _) rfl) <| am rfl rfl ?_
  first | (refine AO.opx rfl rfl (jg (bytes := 1) 0 al ai rfl (by kernel_rfl) rfl rfl rfl ?h3 ?h4) ?_; (case h3 => (first | omega | (simp; done) | (simp; omega))); (case h4 => (first | omega | (simp; done) | (simp; omega)))) | (refine AO.opx rfl rfl (jg (bytes := 1) 1 al ai rfl (by kernel_rfl) rfl rfl rfl ?h5 ?h6) ?_; (case h5 => (first | omega | (simp; done) | (simp; omega))); (case h6 => (first | omega | (simp; done) | (simp; omega)))) | (refine AO.opx rfl rfl (jg (bytes := 1) 2 al ai rfl (by kernel_rfl) rfl rfl rfl ?h7 ?h8) ?_; (case h7 => (first | omega | (simp; done) | (simp; omega))); (case h8 => (first | omega | (simp; done) | (simp; omega)))) | (refine AO.opx rfl rfl (jg (bytes := 1) 3 al ai rfl (by kernel_rfl) rfl rfl rfl ?h9 ?h10) ?_; (case h9 => (first | omega | (simp; done) | (simp; omega))); (case h10 => (first | omega | (simp; done) | (simp; omega))))
  rintro _ _ ⟨t14, rfl, rfl⟩;refine am rfl rfl ?_
  first | (refine aw rfl rfl (ar rfl) ?_) | (refine aw rfl rfl (bq rfl) ?_) | (refine aw rfl rfl (bp rfl) ?_)
  refine am rfl rfl <| aw rfl rfl (an (n := 1) (by kernel_rfl) rfl) <| am rfl rfl ?_
  first | (refine cY rfl (aq (i := 0) (c := slE _ _ _) (by kernel_rfl) rfl rfl rfl rfl ?h12) ?_; (case h12 => (simp))) | (refine cY rfl (aq (i := 0) (c := .v _) (by kernel_rfl) rfl rfl rfl rfl ?h13) ?_; (case h13 => (simp))) | (refine cY rfl (aq (i := 0) (c := .vw _ _ _ _) (by kernel_rfl) rfl rfl rfl rfl ?h14) ?_; (case h14 => (simp))) | (refine cY rfl (aq (i := 1) (c := slE _ _ _) (by kernel_rfl) rfl rfl rfl rfl ?h15) ?_; (case h15 => (simp))) | (refine cY rfl (aq (i := 1) (c := .v _) (by kernel_rfl) rfl rfl rfl rfl ?h16) ?_; (case h16 => (simp))) | (refine cY rfl (aq (i := 1) (c := .vw _ _ _ _) (by kernel_rfl) rfl rfl rfl rfl ?h17) ?_; (case h17 => (simp)))
  refine ag <| af <| aa ?_;show AR _ _ _ _ _ [0, 1, 2, 3] _;refine am rfl rfl <| aw rfl rfl (ah (av := .v _) rfl) <| am rfl rfl <| aw rfl rfl (bt ai rfl) <| am rfl rfl <| aw rfl rfl (aH (av := .v _) rfl) <| am rfl rfl <| aw rfl rfl (aH (av := .v _) rfl) <| ag <| aG ?_
  -- END 1 (ret)
  show cM _ _ _ _ .ret _;exact ⟨rfl, _, _, ResV.two (av := .v _) (bv := .v _) rfl rfl rfl, bG _, rfl, t14, rfl⟩
abbrev _root_.Go.Av.cc := @Tryz.underlying79
set_option maxRecDepth 100000 in
set_option maxHeartbeats 1000000 in
theorem kD (o : Nat) (a : AV) (l : List UInt8) (t : Nat) (hl : l.length ≤ 1000000000) :
    ACalls Tryz.prog 19 [.pt o 0] [.obj o [a, slE Enc.byte l (some t)], .tok t 5] (Ret (S l) [.obj o [a, slE Enc.byte l (some t)]]) := by
  refine ap Tryz.func19 rfl rfl ?_;show AW _ _ 14 _ _ _;refine af <| aa ?_;show AR _ _ _ _ _ [0] _;refine am rfl rfl <| aw rfl rfl (aH (av := .v _) rfl) <| ag <| af <| cw (by kernel_rfl) ?_;show AI _ _ _ _ _ 12 (Array.replicate 12 false) _
  first | (refine aJ (i := 0) rfl rfl (by kernel_rfl) (by kernel_rfl) (by kernel_rfl) (fun _ _ h => by obtain ⟨_, _, _, h, _⟩ := h; cases h) (ah (av := .pt _ _) rfl) ?_) | (refine aJ (i := 0) rfl rfl (by kernel_rfl) (by kernel_rfl) (by kernel_rfl) (fun _ _ h => by obtain ⟨_, _, _, h, _⟩ := h; cases h) (ah (av := .cp _) rfl) ?_) | (refine aJ (i := 0) rfl rfl (by kernel_rfl) (by kernel_rfl) (by kernel_rfl) (fun _ _ h => by obtain ⟨_, _, _, h, _⟩ := h; cases h) (ah (av := .v _) rfl) ?_)
  show AI _ _ _ _ _ _ #[true, false, false, false, false, false, false, false, false, false, false, false] _
  first | (refine aJ (i := 1) rfl rfl (by kernel_rfl) (by kernel_rfl) (by kernel_rfl) (fun _ _ h => by obtain ⟨_, _, _, h, _⟩ := h; cases h) (ar rfl) ?_) | (refine aJ (i := 1) rfl rfl (by kernel_rfl) (by kernel_rfl) (by kernel_rfl) (fun _ _ h => by obtain ⟨_, _, _, h, _⟩ := h; cases h) (bq rfl) ?_) | (refine aJ (i := 1) rfl rfl (by kernel_rfl) (by kernel_rfl) (by kernel_rfl) (fun _ _ h => by obtain ⟨_, _, _, h, _⟩ := h; cases h) (bp rfl) ?_)
  show AI _ _ _ _ _ _ #[true, true, false, false, false, false, false, false, false, false, false, false] _;refine aJ (i := 2) rfl rfl (by kernel_rfl) (by kernel_rfl) (by kernel_rfl) (fun _ _ h => by obtain ⟨_, _, _, h, _⟩ := h; cases h) (an (n := 1) (by kernel_rfl) rfl) ?_;show AI _ _ _ _ _ _ #[true, true, true, false, false, false, false, false, false, false, false, false] _
  first | (refine aJ (i := 5) rfl rfl (by kernel_rfl) (by kernel_rfl) (by kernel_rfl) (fun _ _ h => by obtain ⟨_, _, _, h, _⟩ := h; cases h) (ah (av := .pt _ _) rfl) ?_) | (refine aJ (i := 5) rfl rfl (by kernel_rfl) (by kernel_rfl) (by kernel_rfl) (fun _ _ h => by obtain ⟨_, _, _, h, _⟩ := h; cases h) (ah (av := .cp _) rfl) ?_) | (refine aJ (i := 5) rfl rfl (by kernel_rfl) (by kernel_rfl) (by kernel_rfl) (fun _ _ h => by obtain ⟨_, _, _, h, _⟩ := h; cases h) (ah (av := .v _) rfl) ?_)
  show AI _ _ _ _ _ _ #[true, true, true, false, false, true, false, false, false, false, false, false] _
  first | (refine aJ (i := 6) rfl rfl (by kernel_rfl) (by kernel_rfl) (by kernel_rfl) (fun _ _ h => by obtain ⟨_, _, _, h, _⟩ := h; cases h) (ar rfl) ?_) | (refine aJ (i := 6) rfl rfl (by kernel_rfl) (by kernel_rfl) (by kernel_rfl) (fun _ _ h => by obtain ⟨_, _, _, h, _⟩ := h; cases h) (bq rfl) ?_) | (refine aJ (i := 6) rfl rfl (by kernel_rfl) (by kernel_rfl) (by kernel_rfl) (fun _ _ h => by obtain ⟨_, _, _, h, _⟩ := h; cases h) (bp rfl) ?_)
  show AI _ _ _ _ _ _ #[true, true, true, false, false, true, true, false, false, false, false, false] _;refine aJ (i := 7) rfl rfl (by kernel_rfl) (by kernel_rfl) (by kernel_rfl) (fun _ _ h => by obtain ⟨_, _, _, h, _⟩ := h; cases h) (an (n := 1) (by kernel_rfl) rfl) ?_;show AI _ _ _ _ _ _ #[true, true, true, false, false, true, true, true, false, false, false, false] _;refine AI.two (i := 3) (j := 8) (by kernel_rfl) rfl rfl rfl rfl ?_ ?_
  · first | refine bw rfl (ao (i := 0) al rfl rfl rfl rfl) ?_ | refine bw rfl (ao (i := 1) al rfl rfl rfl rfl) ?_
    show AI _ _ _ _ _ _ #[true, true, true, true, false, true, true, true, false, false, false, false] _;refine AI.two (i := 4) (j := 8) (by kernel_rfl) rfl rfl rfl rfl ?_ ?_
    · first | refine bw rfl (gh (i := 0) cc rfl rfl) ?_ | refine bw rfl (gh (i := 1) cc rfl rfl) ?_
      show AI _ _ _ _ _ _ #[true, true, true, true, true, true, true, true, false, false, false, false] _;refine cj (i := 8) (by kernel_rfl) rfl rfl ?_
      first | refine bw rfl (ao (i := 0) al rfl rfl rfl rfl) ?_ | refine bw rfl (ao (i := 1) al rfl rfl rfl rfl) ?_
      show AI _ _ _ _ _ _ #[true, true, true, true, true, true, true, true, true, false, false, false] _
      first | (refine aJ (i := 9) rfl rfl (by kernel_rfl) (by kernel_rfl) (by kernel_rfl) (fun _ _ h => by obtain ⟨_, _, _, h, _⟩ := h; cases h) (bE al rfl) ?_) | (refine aJ (i := 9) rfl rfl (by kernel_rfl) (by kernel_rfl) (by kernel_rfl) (fun _ _ h => by obtain ⟨_, _, _, h, _⟩ := h; cases h) (cD al rfl) ?_)
      show AI _ _ _ _ _ _ #[true, true, true, true, true, true, true, true, true, true, false, false] _;refine cj (i := 10) (by kernel_rfl) rfl rfl ?_
      first | (refine bw rfl (eg (i := 0) (El := 5) cc (by kernel_rfl) rfl rfl rfl ?h2 rfl) ?_; (case h2 => (first | omega | (simp; omega)))) | (refine bw rfl (eg (i := 1) (El := 5) cc (by kernel_rfl) rfl rfl rfl ?h3 rfl) ?_; (case h3 => (first | omega | (simp; omega))))
      show AI _ _ _ _ _ _ #[true, true, true, true, true, true, true, true, true, true, true, false] _;refine aJ (i := 11) rfl rfl (by kernel_rfl) (by kernel_rfl) (by kernel_rfl) (fun _ _ h => by obtain ⟨_, _, _, h, _⟩ := h; cases h) (aH (av := .v _) rfl) ?_;show AI _ _ _ _ _ _ #[true, true, true, true, true, true, true, true, true, true, true, true] _;refine cT rfl <| aG ?_
      -- END 1 (ret)
      show cM _ _ _ _ .ret _
      (refine ⟨rfl, _, _, aF rfl ?_, ?_, ⟨rfl, rfl⟩⟩; all_goals first | exact bG _ | exact ba _ | ((repeat (first | exact bG _ | exact ba _ | refine fo _ ?_ | refine fm _ ?_)); done) | exact Wv.refl _ | exact Wv.tok _ _ _ | exact Wv.nil _)
    · first | refine bw rfl (ao (i := 0) al rfl rfl rfl rfl) ?_ | refine bw rfl (ao (i := 1) al rfl rfl rfl rfl) ?_
      show AI _ _ _ _ _ _ #[true, true, true, true, false, true, true, true, true, false, false, false] _
      first | (refine aJ (i := 9) rfl rfl (by kernel_rfl) (by kernel_rfl) (by kernel_rfl) (fun _ _ h => by obtain ⟨_, _, _, h, _⟩ := h; cases h) (bE al rfl) ?_) | (refine aJ (i := 9) rfl rfl (by kernel_rfl) (by kernel_rfl) (by kernel_rfl) (fun _ _ h => by obtain ⟨_, _, _, h, _⟩ := h; cases h) (cD al rfl) ?_)
      show AI _ _ _ _ _ _ #[true, true, true, true, false, true, true, true, true, true, false, false] _;refine cj (i := 4) (by kernel_rfl) rfl rfl ?_
      first | refine bw rfl (gh (i := 0) cc rfl rfl) ?_ | refine bw rfl (gh (i := 1) cc rfl rfl) ?_
      show AI _ _ _ _ _ _ #[true, true, true, true, true, true, true, true, true, true, false, false] _;refine cj (i := 10) (by kernel_rfl) rfl rfl ?_
      first | (refine bw rfl (eg (i := 0) (El := 5) cc (by kernel_rfl) rfl rfl rfl ?h5 rfl) ?_; (case h5 => (first | omega | (simp; omega)))) | (refine bw rfl (eg (i := 1) (El := 5) cc (by kernel_rfl) rfl rfl rfl ?h6 rfl) ?_; (case h6 => (first | omega | (simp; omega))))
      show AI _ _ _ _ _ _ #[true, true, true, true, true, true, true, true, true, true, true, false] _;refine aJ (i := 11) rfl rfl (by kernel_rfl) (by kernel_rfl) (by kernel_rfl) (fun _ _ h => by obtain ⟨_, _, _, h, _⟩ := h; cases h) (aH (av := .v _) rfl) ?_;show AI _ _ _ _ _ _ #[true, true, true, true, true, true, true, true, true, true, true, true] _;refine cT rfl <| aG ?_
      -- END 2 (ret)
      show cM _ _ _ _ .ret _
      (refine ⟨rfl, _, _, aF rfl ?_, ?_, ⟨rfl, rfl⟩⟩; all_goals first | exact bG _ | exact ba _ | ((repeat (first | exact bG _ | exact ba _ | refine fo _ ?_ | refine fm _ ?_)); done) | exact Wv.refl _ | exact Wv.tok _ _ _ | exact Wv.nil _)
  · first | refine bw rfl (ao (i := 0) al rfl rfl rfl rfl) ?_ | refine bw rfl (ao (i := 1) al rfl rfl rfl rfl) ?_
    show AI _ _ _ _ _ _ #[true, true, true, false, false, true, true, true, true, false, false, false] _
    first | (refine aJ (i := 9) rfl rfl (by kernel_rfl) (by kernel_rfl) (by kernel_rfl) (fun _ _ h => by obtain ⟨_, _, _, h, _⟩ := h; cases h) (bE al rfl) ?_) | (refine aJ (i := 9) rfl rfl (by kernel_rfl) (by kernel_rfl) (by kernel_rfl) (fun _ _ h => by obtain ⟨_, _, _, h, _⟩ := h; cases h) (cD al rfl) ?_)
    show AI _ _ _ _ _ _ #[true, true, true, false, false, true, true, true, true, true, false, false] _;refine cj (i := 3) (by kernel_rfl) rfl rfl ?_
    first | refine bw rfl (ao (i := 0) al rfl rfl rfl rfl) ?_ | refine bw rfl (ao (i := 1) al rfl rfl rfl rfl) ?_
    show AI _ _ _ _ _ _ #[true, true, true, true, false, true, true, true, true, true, false, false] _;refine cj (i := 4) (by kernel_rfl) rfl rfl ?_
    first | refine bw rfl (gh (i := 0) cc rfl rfl) ?_ | refine bw rfl (gh (i := 1) cc rfl rfl) ?_
    show AI _ _ _ _ _ _ #[true, true, true, true, true, true, true, true, true, true, false, false] _;refine cj (i := 10) (by kernel_rfl) rfl rfl ?_
    first | (refine bw rfl (eg (i := 0) (El := 5) cc (by kernel_rfl) rfl rfl rfl ?h8 rfl) ?_; (case h8 => (first | omega | (simp; omega)))) | (refine bw rfl (eg (i := 1) (El := 5) cc (by kernel_rfl) rfl rfl rfl ?h9 rfl) ?_; (case h9 => (first | omega | (simp; omega))))
    show AI _ _ _ _ _ _ #[true, true, true, true, true, true, true, true, true, true, true, false] _;refine aJ (i := 11) rfl rfl (by kernel_rfl) (by kernel_rfl) (by kernel_rfl) (fun _ _ h => by obtain ⟨_, _, _, h, _⟩ := h; cases h) (aH (av := .v _) rfl) ?_;show AI _ _ _ _ _ _ #[true, true, true, true, true, true, true, true, true, true, true, true] _;refine cT rfl <| aG ?_
    -- END 3 (ret)
    show cM _ _ _ _ .ret _
    (refine ⟨rfl, _, _, aF rfl ?_, ?_, ⟨rfl, rfl⟩⟩; all_goals first | exact bG _ | exact ba _ | ((repeat (first | exact bG _ | exact ba _ | refine fo _ ?_ | refine fm _ ?_)); done) | exact Wv.refl _ | exact Wv.tok _ _ _ | exact Wv.nil _)
set_option maxRecDepth 100000 in
set_option maxHeartbeats 1000000 in
theorem jY (o : Nat) (a : AV) (n : Nat) (hn : n ≤ 1000000000) :
    ACalls Tryz.prog 59 [.pt o 0, i64 n] [.obj o [a, eH]] (fun e A' => e = .ret (.tup []) ∧ ∃ t', A' = [.tok t' 5, .obj o [a, slE Enc.byte [] (some t')]]) := by
  refine ap Tryz.func59 rfl rfl ?_;show AW _ _ 30 _ _ _;refine af <| cw (by kernel_rfl) ?_;show AI _ _ _ _ _ 16 (Array.replicate 16 false) _
  first | (refine aJ (i := 0) rfl rfl (by kernel_rfl) (by kernel_rfl) (by kernel_rfl) (fun _ _ h => by obtain ⟨_, _, _, h, _⟩ := h; cases h) (ah (av := .pt _ _) rfl) ?_) | (refine aJ (i := 0) rfl rfl (by kernel_rfl) (by kernel_rfl) (by kernel_rfl) (fun _ _ h => by obtain ⟨_, _, _, h, _⟩ := h; cases h) (ah (av := .cp _) rfl) ?_) | (refine aJ (i := 0) rfl rfl (by kernel_rfl) (by kernel_rfl) (by kernel_rfl) (fun _ _ h => by obtain ⟨_, _, _, h, _⟩ := h; cases h) (ah (av := .v _) rfl) ?_)
  show AI _ _ _ _ _ _ #[true, false, false, false, false, false, false, false, false, false, false, false, false, false, false, false] _
  first | (refine aJ (i := 1) rfl rfl (by kernel_rfl) (by kernel_rfl) (by kernel_rfl) (fun _ _ h => by obtain ⟨_, _, _, h, _⟩ := h; cases h) (ar rfl) ?_) | (refine aJ (i := 1) rfl rfl (by kernel_rfl) (by kernel_rfl) (by kernel_rfl) (fun _ _ h => by obtain ⟨_, _, _, h, _⟩ := h; cases h) (bq rfl) ?_) | (refine aJ (i := 1) rfl rfl (by kernel_rfl) (by kernel_rfl) (by kernel_rfl) (fun _ _ h => by obtain ⟨_, _, _, h, _⟩ := h; cases h) (bp rfl) ?_)
  show AI _ _ _ _ _ _ #[true, true, false, false, false, false, false, false, false, false, false, false, false, false, false, false] _;refine aJ (i := 2) rfl rfl (by kernel_rfl) (by kernel_rfl) (by kernel_rfl) (fun _ _ h => by obtain ⟨_, _, _, h, _⟩ := h; cases h) (an (n := 1) (by kernel_rfl) rfl) ?_;show AI _ _ _ _ _ _ #[true, true, true, false, false, false, false, false, false, false, false, false, false, false, false, false] _;refine aJ (i := 6) rfl rfl (by kernel_rfl) (by kernel_rfl) (by kernel_rfl) (fun _ _ h => by obtain ⟨_, _, _, h, _⟩ := h; cases h) (ah (av := .v _) rfl) ?_;show AI _ _ _ _ _ _ #[true, true, true, false, false, false, true, false, false, false, false, false, false, false, false, false] _
  first | (refine aJ (i := 9) rfl rfl (by kernel_rfl) (by kernel_rfl) (by kernel_rfl) (fun _ _ h => by obtain ⟨_, _, _, h, _⟩ := h; cases h) (ah (av := .pt _ _) rfl) ?_) | (refine aJ (i := 9) rfl rfl (by kernel_rfl) (by kernel_rfl) (by kernel_rfl) (fun _ _ h => by obtain ⟨_, _, _, h, _⟩ := h; cases h) (ah (av := .cp _) rfl) ?_) | (refine aJ (i := 9) rfl rfl (by kernel_rfl) (by kernel_rfl) (by kernel_rfl) (fun _ _ h => by obtain ⟨_, _, _, h, _⟩ := h; cases h) (ah (av := .v _) rfl) ?_)
  show AI _ _ _ _ _ _ #[true, true, true, false, false, false, true, false, false, true, false, false, false, false, false, false] _
  first | (refine aJ (i := 10) rfl rfl (by kernel_rfl) (by kernel_rfl) (by kernel_rfl) (fun _ _ h => by obtain ⟨_, _, _, h, _⟩ := h; cases h) (ar rfl) ?_) | (refine aJ (i := 10) rfl rfl (by kernel_rfl) (by kernel_rfl) (by kernel_rfl) (fun _ _ h => by obtain ⟨_, _, _, h, _⟩ := h; cases h) (bq rfl) ?_) | (refine aJ (i := 10) rfl rfl (by kernel_rfl) (by kernel_rfl) (by kernel_rfl) (fun _ _ h => by obtain ⟨_, _, _, h, _⟩ := h; cases h) (bp rfl) ?_)
  show AI _ _ _ _ _ _ #[true, true, true, false, false, false, true, false, false, true, true, false, false, false, false, false] _;refine aJ (i := 11) rfl rfl (by kernel_rfl) (by kernel_rfl) (by kernel_rfl) (fun _ _ h => by obtain ⟨_, _, _, h, _⟩ := h; cases h) (an (n := 1) (by kernel_rfl) rfl) ?_;show AI _ _ _ _ _ _ #[true, true, true, false, false, false, true, false, false, true, true, true, false, false, false, false] _;refine AI.two (i := 3) (j := 12) (by kernel_rfl) rfl rfl rfl rfl ?_ ?_
  · first | refine bw rfl (ao (i := 0) al rfl rfl rfl rfl) ?_ | refine bw rfl (ao (i := 1) al rfl rfl rfl rfl) ?_
    show AI _ _ _ _ _ _ #[true, true, true, true, false, false, true, false, false, true, true, true, false, false, false, false] _
    first | (refine aJ (i := 4) rfl rfl (by kernel_rfl) (by kernel_rfl) (by kernel_rfl) (fun _ _ h => by obtain ⟨_, _, _, h, _⟩ := h; cases h) (iX al rfl) ?_) | (refine aJ (i := 4) rfl rfl (by kernel_rfl) (by kernel_rfl) (by kernel_rfl) (fun _ _ h => by obtain ⟨_, _, _, h, _⟩ := h; cases h) (opS_cap_vw al rfl) ?_)
    show AI _ _ _ _ _ _ #[true, true, true, true, true, false, true, false, false, true, true, true, false, false, false, false] _
    refine aJ (i := 5) rfl rfl (by kernel_rfl) (by kernel_rfl) (by kernel_rfl) (fun _ _ h => by obtain ⟨_, _, _, h, _⟩ := h; cases h) (rn rfl rfl ?h2) ?_; (case h2 => (omega))
    show AI _ _ _ _ _ _ #[true, true, true, true, true, true, true, false, false, true, true, true, false, false, false, false] _
    refine aJ (i := 7) rfl rfl (by kernel_rfl) (by kernel_rfl) (by kernel_rfl) (fun _ _ h => by obtain ⟨_, _, _, h, _⟩ := h; cases h) (nj rfl rfl ?h4) ?_; (case h4 => (omega))
    show AI _ _ _ _ _ _ #[true, true, true, true, true, true, true, true, false, true, true, true, false, false, false, false] _;refine AI.two (i := 8) (j := 12) (by kernel_rfl) rfl rfl rfl rfl ?_ ?_
    · refine AIO.opx rfl (la (m := n) (ps := #[3]) (t0 := 30) Tryz.func69 ⟨by kernel_rfl, by kernel_rfl, by kernel_rfl, by kernel_rfl⟩ al rfl ?h7 ?h8) ?_; (case h7 => (omega)); (case h8 => (first | omega | (simp; omega)))
      rintro _ _ ⟨t13, rfl, rfl⟩;show AI _ _ _ _ _ _ #[true, true, true, true, true, true, true, true, true, true, true, true, false, false, false, false] _;refine cj (i := 12) (by kernel_rfl) rfl rfl ?_
      first | refine bw rfl (ao (i := 0) al rfl rfl rfl rfl) ?_ | refine bw rfl (ao (i := 1) al rfl rfl rfl rfl) ?_
      show AI _ _ _ _ _ _ #[true, true, true, true, true, true, true, true, true, true, true, true, true, false, false, false] _
      first | (refine aJ (i := 13) rfl rfl (by kernel_rfl) (by kernel_rfl) (by kernel_rfl) (fun _ _ h => by obtain ⟨_, _, _, h, _⟩ := h; cases h) (bE al rfl) ?_) | (refine aJ (i := 13) rfl rfl (by kernel_rfl) (by kernel_rfl) (by kernel_rfl) (fun _ _ h => by obtain ⟨_, _, _, h, _⟩ := h; cases h) (cD al rfl) ?_)
      show AI _ _ _ _ _ _ #[true, true, true, true, true, true, true, true, true, true, true, true, true, true, false, false] _
      refine aJ (i := 14) rfl rfl (by kernel_rfl) (by kernel_rfl) (by kernel_rfl) (fun _ _ h => by obtain ⟨_, _, _, h, _⟩ := h; cases h) (mK (E := Enc.byte) al (by kernel_rfl) rfl rfl rfl ?h9) ?_; (case h9 => (first | rfl | omega))
      show AI _ _ _ _ _ _ #[true, true, true, true, true, true, true, true, true, true, true, true, true, true, true, false] _
      first | (refine aJ (i := 15) rfl rfl (by kernel_rfl) (by kernel_rfl) (by kernel_rfl) (fun _ _ h => by obtain ⟨_, _, _, h, _⟩ := h; cases h) (aH (av := slE _ _ _) rfl) ?_) | (refine aJ (i := 15) rfl rfl (by kernel_rfl) (by kernel_rfl) (by kernel_rfl) (fun _ _ h => by obtain ⟨_, _, _, h, _⟩ := h; cases h) (aH (av := .v _) rfl) ?_) | (refine aJ (i := 15) rfl rfl (by kernel_rfl) (by kernel_rfl) (by kernel_rfl) (fun _ _ h => by obtain ⟨_, _, _, h, _⟩ := h; cases h) (aH (av := .vw _ _ _ _) rfl) ?_)
      show AI _ _ _ _ _ _ #[true, true, true, true, true, true, true, true, true, true, true, true, true, true, true, true] _;refine cT rfl <| af <| aa ?_;show AR _ _ _ _ _ [0, 1, 2, 3, 4, 5] _;refine am rfl rfl ?_
      first | (refine aw rfl rfl (ah (av := slE _ _ _) rfl) ?_) | (refine aw rfl rfl (ah (av := .v _) rfl) ?_) | (refine aw rfl rfl (ah (av := .vw _ _ _ _) rfl) ?_)
      refine am rfl rfl ?_
      first | (refine aw rfl rfl (ah (av := .pt _ _) rfl) ?_) | (refine aw rfl rfl (ah (av := .cp _) rfl) ?_) | (refine aw rfl rfl (ah (av := .v _) rfl) ?_)
      refine am rfl rfl ?_
      first | (refine aw rfl rfl (ar rfl) ?_) | (refine aw rfl rfl (bq rfl) ?_) | (refine aw rfl rfl (bp rfl) ?_)
      refine am rfl rfl <| aw rfl rfl (an (n := 1) (by kernel_rfl) rfl) <| am rfl rfl ?_
      first | refine aw rfl rfl (aL al rfl rfl) ?_ | refine ck rfl rfl (ao (i := 0) al rfl rfl rfl rfl) ?_ | refine ck rfl rfl (ao (i := 1) al rfl rfl rfl rfl) ?_
      refine am rfl rfl ?_
      first | (refine ck rfl rfl (OpS.opR (lT (E := Enc.byte) al (by kernel_rfl) rfl rfl) _) ?_) | (refine ck rfl rfl (iY (E := Enc.byte) (i := 0) al (by kernel_rfl) rfl rfl rfl ?h12 ?h13) ?_; (case h12 => (first | omega | (simp; omega))); (case h13 => (first | omega | (simp; omega)))) | (refine ck rfl rfl (iY (E := Enc.byte) (i := 1) al (by kernel_rfl) rfl rfl rfl ?h14 ?h15) ?_; (case h14 => (first | omega | (simp; omega))); (case h15 => (first | omega | (simp; omega)))) | (refine ck rfl rfl (gR (i := 0) al (by kernel_rfl) rfl rfl rfl ?h16 ?h17) ?_; (case h16 => (first | omega | (simp; omega))); (case h17 => (first | omega | (simp; omega)))) | (refine ck rfl rfl (gR (i := 1) al (by kernel_rfl) rfl rfl rfl ?h18 ?h19) ?_; (case h18 => (first | omega | (simp; omega))); (case h19 => (first | omega | (simp; omega))))
      refine ag <| aa ?_;show AR _ _ _ _ _ [0, 1, 2, 3, 4] _;refine am rfl rfl ?_
      first | (refine aw rfl rfl (ah (av := .pt _ _) rfl) ?_) | (refine aw rfl rfl (ah (av := .cp _) rfl) ?_) | (refine aw rfl rfl (ah (av := .v _) rfl) ?_)
      refine am rfl rfl ?_
      first | (refine aw rfl rfl (ah (av := slE _ _ _) rfl) ?_) | (refine aw rfl rfl (ah (av := .v _) rfl) ?_) | (refine aw rfl rfl (ah (av := .vw _ _ _ _) rfl) ?_)
      refine am rfl rfl ?_
      first | (refine aw rfl rfl (ar rfl) ?_) | (refine aw rfl rfl (bq rfl) ?_) | (refine aw rfl rfl (bp rfl) ?_)
      refine am rfl rfl <| aw rfl rfl (an (n := 1) (by kernel_rfl) rfl) <| am rfl rfl ?_
      first | (refine cY rfl (aq (i := 0) (c := slE _ _ _) (by kernel_rfl) rfl rfl rfl rfl ?h21) ?_; (case h21 => (simp))) | (refine cY rfl (aq (i := 0) (c := .v _) (by kernel_rfl) rfl rfl rfl rfl ?h22) ?_; (case h22 => (simp))) | (refine cY rfl (aq (i := 0) (c := .vw _ _ _ _) (by kernel_rfl) rfl rfl rfl rfl ?h23) ?_; (case h23 => (simp))) | (refine cY rfl (aq (i := 1) (c := slE _ _ _) (by kernel_rfl) rfl rfl rfl rfl ?h24) ?_; (case h24 => (simp))) | (refine cY rfl (aq (i := 1) (c := .v _) (by kernel_rfl) rfl rfl rfl rfl ?h25) ?_; (case h25 => (simp))) | (refine cY rfl (aq (i := 1) (c := .vw _ _ _ _) (by kernel_rfl) rfl rfl rfl rfl ?h26) ?_; (case h26 => (simp)))
      refine ag ?_
      -- END 1 (end)
      show cM _ _ _ _ .normal _;exact ⟨rfl, _, _, fH rfl, bG _, rfl, t13, rfl⟩
    · first | refine bw rfl (ao (i := 0) al rfl rfl rfl rfl) ?_ | refine bw rfl (ao (i := 1) al rfl rfl rfl rfl) ?_
      show AI _ _ _ _ _ _ #[true, true, true, true, true, true, true, true, false, true, true, true, true, false, false, false] _
      first | (refine aJ (i := 13) rfl rfl (by kernel_rfl) (by kernel_rfl) (by kernel_rfl) (fun _ _ h => by obtain ⟨_, _, _, h, _⟩ := h; cases h) (bE al rfl) ?_) | (refine aJ (i := 13) rfl rfl (by kernel_rfl) (by kernel_rfl) (by kernel_rfl) (fun _ _ h => by obtain ⟨_, _, _, h, _⟩ := h; cases h) (cD al rfl) ?_)
      show AI _ _ _ _ _ _ #[true, true, true, true, true, true, true, true, false, true, true, true, true, true, false, false] _;refine cj (i := 8) (by kernel_rfl) rfl rfl ?_
      refine AIO.opx rfl (la (m := n) (ps := #[3]) (t0 := 30) Tryz.func69 ⟨by kernel_rfl, by kernel_rfl, by kernel_rfl, by kernel_rfl⟩ al rfl ?h29 ?h30) ?_; (case h29 => (omega)); (case h30 => (first | omega | (simp; omega)))
      rintro _ _ ⟨t13, rfl, rfl⟩;show AI _ _ _ _ _ _ #[true, true, true, true, true, true, true, true, true, true, true, true, true, true, false, false] _
      refine aJ (i := 14) rfl rfl (by kernel_rfl) (by kernel_rfl) (by kernel_rfl) (fun _ _ h => by obtain ⟨_, _, _, h, _⟩ := h; cases h) (mK (E := Enc.byte) al (by kernel_rfl) rfl rfl rfl ?h31) ?_; (case h31 => (first | rfl | omega))
      show AI _ _ _ _ _ _ #[true, true, true, true, true, true, true, true, true, true, true, true, true, true, true, false] _
      first | (refine aJ (i := 15) rfl rfl (by kernel_rfl) (by kernel_rfl) (by kernel_rfl) (fun _ _ h => by obtain ⟨_, _, _, h, _⟩ := h; cases h) (aH (av := slE _ _ _) rfl) ?_) | (refine aJ (i := 15) rfl rfl (by kernel_rfl) (by kernel_rfl) (by kernel_rfl) (fun _ _ h => by obtain ⟨_, _, _, h, _⟩ := h; cases h) (aH (av := .v _) rfl) ?_) | (refine aJ (i := 15) rfl rfl (by kernel_rfl) (by kernel_rfl) (by kernel_rfl) (fun _ _ h => by obtain ⟨_, _, _, h, _⟩ := h; cases h) (aH (av := .vw _ _ _ _) rfl) ?_)
      show AI _ _ _ _ _ _ #[true, true, true, true, true, true, true, true, true, true, true, true, true, true, true, true] _;refine cT rfl <| af <| aa ?_;show AR _ _ _ _ _ [0, 1, 2, 3, 4, 5] _;refine am rfl rfl ?_
      first | (refine aw rfl rfl (ah (av := slE _ _ _) rfl) ?_) | (refine aw rfl rfl (ah (av := .v _) rfl) ?_) | (refine aw rfl rfl (ah (av := .vw _ _ _ _) rfl) ?_)
      refine am rfl rfl ?_
      first | (refine aw rfl rfl (ah (av := .pt _ _) rfl) ?_) | (refine aw rfl rfl (ah (av := .cp _) rfl) ?_) | (refine aw rfl rfl (ah (av := .v _) rfl) ?_)
      refine am rfl rfl ?_
      first | (refine aw rfl rfl (ar rfl) ?_) | (refine aw rfl rfl (bq rfl) ?_) | (refine aw rfl rfl (bp rfl) ?_)
      refine am rfl rfl <| aw rfl rfl (an (n := 1) (by kernel_rfl) rfl) <| am rfl rfl ?_
      first | refine aw rfl rfl (aL al rfl rfl) ?_ | refine ck rfl rfl (ao (i := 0) al rfl rfl rfl rfl) ?_ | refine ck rfl rfl (ao (i := 1) al rfl rfl rfl rfl) ?_
      refine am rfl rfl ?_
      first | (refine ck rfl rfl (OpS.opR (lT (E := Enc.byte) al (by kernel_rfl) rfl rfl) _) ?_) | (refine ck rfl rfl (iY (E := Enc.byte) (i := 0) al (by kernel_rfl) rfl rfl rfl ?h34 ?h35) ?_; (case h34 => (first | omega | (simp; omega))); (case h35 => (first | omega | (simp; omega)))) | (refine ck rfl rfl (iY (E := Enc.byte) (i := 1) al (by kernel_rfl) rfl rfl rfl ?h36 ?h37) ?_; (case h36 => (first | omega | (simp; omega))); (case h37 => (first | omega | (simp; omega)))) | (refine ck rfl rfl (gR (i := 0) al (by kernel_rfl) rfl rfl rfl ?h38 ?h39) ?_; (case h38 => (first | omega | (simp; omega))); (case h39 => (first | omega | (simp; omega)))) | (refine ck rfl rfl (gR (i := 1) al (by kernel_rfl) rfl rfl rfl ?h40 ?h41) ?_; (case h40 => (first | omega | (simp; omega))); (case h41 => (first | omega | (simp; omega))))
      refine ag <| aa ?_;show AR _ _ _ _ _ [0, 1, 2, 3, 4] _;refine am rfl rfl ?_
      first | (refine aw rfl rfl (ah (av := .pt _ _) rfl) ?_) | (refine aw rfl rfl (ah (av := .cp _) rfl) ?_) | (refine aw rfl rfl (ah (av := .v _) rfl) ?_)
      refine am rfl rfl ?_
      first | (refine aw rfl rfl (ah (av := slE _ _ _) rfl) ?_) | (refine aw rfl rfl (ah (av := .v _) rfl) ?_) | (refine aw rfl rfl (ah (av := .vw _ _ _ _) rfl) ?_)
      refine am rfl rfl ?_
      first | (refine aw rfl rfl (ar rfl) ?_) | (refine aw rfl rfl (bq rfl) ?_) | (refine aw rfl rfl (bp rfl) ?_)
      refine am rfl rfl <| aw rfl rfl (an (n := 1) (by kernel_rfl) rfl) <| am rfl rfl ?_
      first | (refine cY rfl (aq (i := 0) (c := slE _ _ _) (by kernel_rfl) rfl rfl rfl rfl ?h43) ?_; (case h43 => (simp))) | (refine cY rfl (aq (i := 0) (c := .v _) (by kernel_rfl) rfl rfl rfl rfl ?h44) ?_; (case h44 => (simp))) | (refine cY rfl (aq (i := 0) (c := .vw _ _ _ _) (by kernel_rfl) rfl rfl rfl rfl ?h45) ?_; (case h45 => (simp))) | (refine cY rfl (aq (i := 1) (c := slE _ _ _) (by kernel_rfl) rfl rfl rfl rfl ?h46) ?_; (case h46 => (simp))) | (refine cY rfl (aq (i := 1) (c := .v _) (by kernel_rfl) rfl rfl rfl rfl ?h47) ?_; (case h47 => (simp))) | (refine cY rfl (aq (i := 1) (c := .vw _ _ _ _) (by kernel_rfl) rfl rfl rfl rfl ?h48) ?_; (case h48 => (simp)))
      refine ag ?_
      -- END 2 (end)
      show cM _ _ _ _ .normal _;exact ⟨rfl, _, _, fH rfl, bG _, rfl, t13, rfl⟩
  · first | refine bw rfl (ao (i := 0) al rfl rfl rfl rfl) ?_ | refine bw rfl (ao (i := 1) al rfl rfl rfl rfl) ?_
    show AI _ _ _ _ _ _ #[true, true, true, false, false, false, true, false, false, true, true, true, true, false, false, false] _
    first | (refine aJ (i := 13) rfl rfl (by kernel_rfl) (by kernel_rfl) (by kernel_rfl) (fun _ _ h => by obtain ⟨_, _, _, h, _⟩ := h; cases h) (bE al rfl) ?_) | (refine aJ (i := 13) rfl rfl (by kernel_rfl) (by kernel_rfl) (by kernel_rfl) (fun _ _ h => by obtain ⟨_, _, _, h, _⟩ := h; cases h) (cD al rfl) ?_)
    show AI _ _ _ _ _ _ #[true, true, true, false, false, false, true, false, false, true, true, true, true, true, false, false] _;refine cj (i := 3) (by kernel_rfl) rfl rfl ?_
    first | refine bw rfl (ao (i := 0) al rfl rfl rfl rfl) ?_ | refine bw rfl (ao (i := 1) al rfl rfl rfl rfl) ?_
    show AI _ _ _ _ _ _ #[true, true, true, true, false, false, true, false, false, true, true, true, true, true, false, false] _
    first | (refine aJ (i := 4) rfl rfl (by kernel_rfl) (by kernel_rfl) (by kernel_rfl) (fun _ _ h => by obtain ⟨_, _, _, h, _⟩ := h; cases h) (iX al rfl) ?_) | (refine aJ (i := 4) rfl rfl (by kernel_rfl) (by kernel_rfl) (by kernel_rfl) (fun _ _ h => by obtain ⟨_, _, _, h, _⟩ := h; cases h) (opS_cap_vw al rfl) ?_)
    show AI _ _ _ _ _ _ #[true, true, true, true, true, false, true, false, false, true, true, true, true, true, false, false] _
    refine aJ (i := 5) rfl rfl (by kernel_rfl) (by kernel_rfl) (by kernel_rfl) (fun _ _ h => by obtain ⟨_, _, _, h, _⟩ := h; cases h) (rn rfl rfl ?h50) ?_; (case h50 => (omega))
    show AI _ _ _ _ _ _ #[true, true, true, true, true, true, true, false, false, true, true, true, true, true, false, false] _
    refine aJ (i := 7) rfl rfl (by kernel_rfl) (by kernel_rfl) (by kernel_rfl) (fun _ _ h => by obtain ⟨_, _, _, h, _⟩ := h; cases h) (nj rfl rfl ?h52) ?_; (case h52 => (omega))
    show AI _ _ _ _ _ _ #[true, true, true, true, true, true, true, true, false, true, true, true, true, true, false, false] _;refine cj (i := 8) (by kernel_rfl) rfl rfl ?_
    refine AIO.opx rfl (la (m := n) (ps := #[3]) (t0 := 30) Tryz.func69 ⟨by kernel_rfl, by kernel_rfl, by kernel_rfl, by kernel_rfl⟩ al rfl ?h55 ?h56) ?_; (case h55 => (omega)); (case h56 => (first | omega | (simp; omega)))
    rintro _ _ ⟨t13, rfl, rfl⟩;show AI _ _ _ _ _ _ #[true, true, true, true, true, true, true, true, true, true, true, true, true, true, false, false] _
    refine aJ (i := 14) rfl rfl (by kernel_rfl) (by kernel_rfl) (by kernel_rfl) (fun _ _ h => by obtain ⟨_, _, _, h, _⟩ := h; cases h) (mK (E := Enc.byte) al (by kernel_rfl) rfl rfl rfl ?h57) ?_; (case h57 => (first | rfl | omega))
    show AI _ _ _ _ _ _ #[true, true, true, true, true, true, true, true, true, true, true, true, true, true, true, false] _
    first | (refine aJ (i := 15) rfl rfl (by kernel_rfl) (by kernel_rfl) (by kernel_rfl) (fun _ _ h => by obtain ⟨_, _, _, h, _⟩ := h; cases h) (aH (av := slE _ _ _) rfl) ?_) | (refine aJ (i := 15) rfl rfl (by kernel_rfl) (by kernel_rfl) (by kernel_rfl) (fun _ _ h => by obtain ⟨_, _, _, h, _⟩ := h; cases h) (aH (av := .v _) rfl) ?_) | (refine aJ (i := 15) rfl rfl (by kernel_rfl) (by kernel_rfl) (by kernel_rfl) (fun _ _ h => by obtain ⟨_, _, _, h, _⟩ := h; cases h) (aH (av := .vw _ _ _ _) rfl) ?_)
    show AI _ _ _ _ _ _ #[true, true, true, true, true, true, true, true, true, true, true, true, true, true, true, true] _;refine cT rfl <| af <| aa ?_;show AR _ _ _ _ _ [0, 1, 2, 3, 4, 5] _;refine am rfl rfl ?_
    first | (refine aw rfl rfl (ah (av := slE _ _ _) rfl) ?_) | (refine aw rfl rfl (ah (av := .v _) rfl) ?_) | (refine aw rfl rfl (ah (av := .vw _ _ _ _) rfl) ?_)
    refine am rfl rfl ?_
    first | (refine aw rfl rfl (ah (av := .pt _ _) rfl) ?_) | (refine aw rfl rfl (ah (av := .cp _) rfl) ?_) | (refine aw rfl rfl (ah (av := .v _) rfl) ?_)
    refine am rfl rfl ?_
    first | (refine aw rfl rfl (ar rfl) ?_) | (refine aw rfl rfl (bq rfl) ?_) | (refine aw rfl rfl (bp rfl) ?_)
    refine am rfl rfl <| aw rfl rfl (an (n := 1) (by kernel_rfl) rfl) <| am rfl rfl ?_
    first | refine aw rfl rfl (aL al rfl rfl) ?_ | refine ck rfl rfl (ao (i := 0) al rfl rfl rfl rfl) ?_ | refine ck rfl rfl (ao (i := 1) al rfl rfl rfl rfl) ?_
    refine am rfl rfl ?_
    first | (refine ck rfl rfl (OpS.opR (lT (E := Enc.byte) al (by kernel_rfl) rfl rfl) _) ?_) | (refine ck rfl rfl (iY (E := Enc.byte) (i := 0) al (by kernel_rfl) rfl rfl rfl ?h60 ?h61) ?_; (case h60 => (first | omega | (simp; omega))); (case h61 => (first | omega | (simp; omega)))) | (refine ck rfl rfl (iY (E := Enc.byte) (i := 1) al (by kernel_rfl) rfl rfl rfl ?h62 ?h63) ?_; (case h62 => (first | omega | (simp; omega))); (case h63 => (first | omega | (simp; omega)))) | (refine ck rfl rfl (gR (i := 0) al (by kernel_rfl) rfl rfl rfl ?h64 ?h65) ?_; (case h64 => (first | omega | (simp; omega))); (case h65 => (first | omega | (simp; omega)))) | (refine ck rfl rfl (gR (i := 1) al (by kernel_rfl) rfl rfl rfl ?h66 ?h67) ?_; (case h66 => (first | omega | (simp; omega))); (case h67 => (first | omega | (simp; omega))))
    refine ag <| aa ?_;show AR _ _ _ _ _ [0, 1, 2, 3, 4] _;refine am rfl rfl ?_
    first | (refine aw rfl rfl (ah (av := .pt _ _) rfl) ?_) | (refine aw rfl rfl (ah (av := .cp _) rfl) ?_) | (refine aw rfl rfl (ah (av := .v _) rfl) ?_)
    refine am rfl rfl ?_
    first | (refine aw rfl rfl (ah (av := slE _ _ _) rfl) ?_) | (refine aw rfl rfl (ah (av := .v _) rfl) ?_) | (refine aw rfl rfl (ah (av := .vw _ _ _ _) rfl) ?_)
    refine am rfl rfl ?_
    first | (refine aw rfl rfl (ar rfl) ?_) | (refine aw rfl rfl (bq rfl) ?_) | (refine aw rfl rfl (bp rfl) ?_)
    refine am rfl rfl <| aw rfl rfl (an (n := 1) (by kernel_rfl) rfl) <| am rfl rfl ?_
    first | (refine cY rfl (aq (i := 0) (c := slE _ _ _) (by kernel_rfl) rfl rfl rfl rfl ?h69) ?_; (case h69 => (simp))) | (refine cY rfl (aq (i := 0) (c := .v _) (by kernel_rfl) rfl rfl rfl rfl ?h70) ?_; (case h70 => (simp))) | (refine cY rfl (aq (i := 0) (c := .vw _ _ _ _) (by kernel_rfl) rfl rfl rfl rfl ?h71) ?_; (case h71 => (simp))) | (refine cY rfl (aq (i := 1) (c := slE _ _ _) (by kernel_rfl) rfl rfl rfl rfl ?h72) ?_; (case h72 => (simp))) | (refine cY rfl (aq (i := 1) (c := .v _) (by kernel_rfl) rfl rfl rfl rfl ?h73) ?_; (case h73 => (simp))) | (refine cY rfl (aq (i := 1) (c := .vw _ _ _ _) (by kernel_rfl) rfl rfl rfl rfl ?h74) ?_; (case h74 => (simp)))
    refine ag ?_
    -- END 3 (end)
    show cM _ _ _ _ .normal _;exact ⟨rfl, _, _, fH rfl, bG _, rfl, t13, rfl⟩
set_option maxRecDepth 100000 in
set_option maxHeartbeats 1000000 in
theorem rI (o : Nat) (a : AV) (ha : a = .v (.pointer none) ∨ a = .pt o 0) (n : Nat) (hn : n ≤ 1000000000) (hz : n = 0) :
    ACalls Tryz.prog 45 [.pt o 0, i64 n] [.obj o [a, eH], .ty o 51] (fun e A' => e = .ret (.tup []) ∧ A' = [.obj o [.pt o 0, eH], .ty o 51]) := by
  refine ap Tryz.func45 rfl rfl ?_;show AW _ _ 25 _ _ _;refine af <| aa ?_;show AR _ _ _ _ _ [0, 1] _;refine am rfl rfl ?_
  first | (refine aw rfl rfl (ah (av := .pt _ _) rfl) ?_) | (refine aw rfl rfl (ah (av := .cp _) rfl) ?_) | (refine aw rfl rfl (ah (av := .v _) rfl) ?_)
  refine am rfl rfl <| AO.call [] rfl en28 rfl (iy  o a eH ha) ?p1 ?k1 ?q1
  (case p1 => (exact bu _))
  (case q1 => (rintro c A' ⟨h, _⟩; cases h))
  rintro av A' ⟨h, rfl⟩; cases h
  refine ag <| af <| af <| aa ?_;show AR _ _ _ _ _ [0, 1] _;refine am rfl rfl <| aw rfl rfl (ah (av := .v _) rfl) <| am rfl rfl <| aw rfl rfl (cd rfl rfl) <| ag <| ax rfl (fun c1 => ?_) (fun c1 => ?_)
  · have c1p := c1; try simp only [decide_eq_true_eq, decide_eq_false_iff_not, Bool.not_eq_true', Bool.not_eq_false', Bool.not_true, Bool.not_false, Bool.not_eq_eq_eq_not] at c1p
    refine aa ?_;show AR _ _ _ _ _ [0, 1] _;refine am rfl rfl <| aw rfl rfl (bf (a := .v _) ai rfl rfl) <| am rfl rfl ?_
    exfalso; first | omega | simp_all
  · have c1p := c1; try simp only [decide_eq_true_eq, decide_eq_false_iff_not, Bool.not_eq_true', Bool.not_eq_false', Bool.not_true, Bool.not_false, Bool.not_eq_eq_eq_not] at c1p
    refine aC <| af <| cw (by kernel_rfl) ?_;show AI _ _ _ _ _ 13 (Array.replicate 13 false) _
    first | (refine aJ (i := 0) rfl rfl (by kernel_rfl) (by kernel_rfl) (by kernel_rfl) (fun _ _ h => by obtain ⟨_, _, _, h, _⟩ := h; cases h) (ah (av := .pt _ _) rfl) ?_) | (refine aJ (i := 0) rfl rfl (by kernel_rfl) (by kernel_rfl) (by kernel_rfl) (fun _ _ h => by obtain ⟨_, _, _, h, _⟩ := h; cases h) (ah (av := .cp _) rfl) ?_) | (refine aJ (i := 0) rfl rfl (by kernel_rfl) (by kernel_rfl) (by kernel_rfl) (fun _ _ h => by obtain ⟨_, _, _, h, _⟩ := h; cases h) (ah (av := .v _) rfl) ?_)
    show AI _ _ _ _ _ _ #[true, false, false, false, false, false, false, false, false, false, false, false, false] _
    first | (refine aJ (i := 1) rfl rfl (by kernel_rfl) (by kernel_rfl) (by kernel_rfl) (fun _ _ h => by obtain ⟨_, _, _, h, _⟩ := h; cases h) (ar rfl) ?_) | (refine aJ (i := 1) rfl rfl (by kernel_rfl) (by kernel_rfl) (by kernel_rfl) (fun _ _ h => by obtain ⟨_, _, _, h, _⟩ := h; cases h) (bq rfl) ?_) | (refine aJ (i := 1) rfl rfl (by kernel_rfl) (by kernel_rfl) (by kernel_rfl) (fun _ _ h => by obtain ⟨_, _, _, h, _⟩ := h; cases h) (bp rfl) ?_)
    show AI _ _ _ _ _ _ #[true, true, false, false, false, false, false, false, false, false, false, false, false] _;refine aJ (i := 2) rfl rfl (by kernel_rfl) (by kernel_rfl) (by kernel_rfl) (fun _ _ h => by obtain ⟨_, _, _, h, _⟩ := h; cases h) (an (n := 1) (by kernel_rfl) rfl) ?_;show AI _ _ _ _ _ _ #[true, true, true, false, false, false, false, false, false, false, false, false, false] _
    first | (refine aJ (i := 5) rfl rfl (by kernel_rfl) (by kernel_rfl) (by kernel_rfl) (fun _ _ h => by obtain ⟨_, _, _, h, _⟩ := h; cases h) (ah (av := .pt _ _) rfl) ?_) | (refine aJ (i := 5) rfl rfl (by kernel_rfl) (by kernel_rfl) (by kernel_rfl) (fun _ _ h => by obtain ⟨_, _, _, h, _⟩ := h; cases h) (ah (av := .cp _) rfl) ?_) | (refine aJ (i := 5) rfl rfl (by kernel_rfl) (by kernel_rfl) (by kernel_rfl) (fun _ _ h => by obtain ⟨_, _, _, h, _⟩ := h; cases h) (ah (av := .v _) rfl) ?_)
    show AI _ _ _ _ _ _ #[true, true, true, false, false, true, false, false, false, false, false, false, false] _
    first | (refine aJ (i := 6) rfl rfl (by kernel_rfl) (by kernel_rfl) (by kernel_rfl) (fun _ _ h => by obtain ⟨_, _, _, h, _⟩ := h; cases h) (ar rfl) ?_) | (refine aJ (i := 6) rfl rfl (by kernel_rfl) (by kernel_rfl) (by kernel_rfl) (fun _ _ h => by obtain ⟨_, _, _, h, _⟩ := h; cases h) (bq rfl) ?_) | (refine aJ (i := 6) rfl rfl (by kernel_rfl) (by kernel_rfl) (by kernel_rfl) (fun _ _ h => by obtain ⟨_, _, _, h, _⟩ := h; cases h) (bp rfl) ?_)
    show AI _ _ _ _ _ _ #[true, true, true, false, false, true, true, false, false, false, false, false, false] _;refine aJ (i := 7) rfl rfl (by kernel_rfl) (by kernel_rfl) (by kernel_rfl) (fun _ _ h => by obtain ⟨_, _, _, h, _⟩ := h; cases h) (an (n := 1) (by kernel_rfl) rfl) ?_;show AI _ _ _ _ _ _ #[true, true, true, false, false, true, true, true, false, false, false, false, false] _;refine aJ (i := 11) rfl rfl (by kernel_rfl) (by kernel_rfl) (by kernel_rfl) (fun _ _ h => by obtain ⟨_, _, _, h, _⟩ := h; cases h) (ah (av := .v _) rfl) ?_;show AI _ _ _ _ _ _ #[true, true, true, false, false, true, true, true, false, false, false, true, false] _;refine AI.two (i := 3) (j := 8) (by kernel_rfl) rfl rfl rfl rfl ?_ ?_
    · first | refine bw rfl (ao (i := 0) al rfl rfl rfl rfl) ?_ | refine bw rfl (ao (i := 1) al rfl rfl rfl rfl) ?_
      show AI _ _ _ _ _ _ #[true, true, true, true, false, true, true, true, false, false, false, true, false] _
      first | (refine aJ (i := 4) rfl rfl (by kernel_rfl) (by kernel_rfl) (by kernel_rfl) (fun _ _ h => by obtain ⟨_, _, _, h, _⟩ := h; cases h) (iX al rfl) ?_) | (refine aJ (i := 4) rfl rfl (by kernel_rfl) (by kernel_rfl) (by kernel_rfl) (fun _ _ h => by obtain ⟨_, _, _, h, _⟩ := h; cases h) (opS_cap_vw al rfl) ?_)
      show AI _ _ _ _ _ _ #[true, true, true, true, true, true, true, true, false, false, false, true, false] _;refine cj (i := 8) (by kernel_rfl) rfl rfl ?_
      first | refine bw rfl (ao (i := 0) al rfl rfl rfl rfl) ?_ | refine bw rfl (ao (i := 1) al rfl rfl rfl rfl) ?_
      show AI _ _ _ _ _ _ #[true, true, true, true, true, true, true, true, true, false, false, true, false] _
      first | (refine aJ (i := 9) rfl rfl (by kernel_rfl) (by kernel_rfl) (by kernel_rfl) (fun _ _ h => by obtain ⟨_, _, _, h, _⟩ := h; cases h) (bE al rfl) ?_) | (refine aJ (i := 9) rfl rfl (by kernel_rfl) (by kernel_rfl) (by kernel_rfl) (fun _ _ h => by obtain ⟨_, _, _, h, _⟩ := h; cases h) (cD al rfl) ?_)
      show AI _ _ _ _ _ _ #[true, true, true, true, true, true, true, true, true, true, false, true, false] _
      refine aJ (i := 10) rfl rfl (by kernel_rfl) (by kernel_rfl) (by kernel_rfl) (fun _ _ h => by obtain ⟨_, _, _, h, _⟩ := h; cases h) (ma rfl rfl ?h2) ?_; (case h2 => (omega))
      show AI _ _ _ _ _ _ #[true, true, true, true, true, true, true, true, true, true, true, true, false] _;refine aJ (i := 12) rfl rfl (by kernel_rfl) (by kernel_rfl) (by kernel_rfl) (fun _ _ h => by obtain ⟨_, _, _, h, _⟩ := h; cases h) (cd rfl rfl) ?_;show AI _ _ _ _ _ _ #[true, true, true, true, true, true, true, true, true, true, true, true, true] _;refine cT rfl <| ax rfl (fun c2 => ?_) (fun c2 => ?_)
      · have c2p := c2; try simp only [decide_eq_true_eq, decide_eq_false_iff_not, Bool.not_eq_true', Bool.not_eq_false', Bool.not_true, Bool.not_false, Bool.not_eq_eq_eq_not] at c2p
        refine aa ?_;show AR _ _ _ _ _ [0, 1, 2] _;refine am rfl rfl ?_
        first | (refine aw rfl rfl (ah (av := .pt _ _) rfl) ?_) | (refine aw rfl rfl (ah (av := .cp _) rfl) ?_) | (refine aw rfl rfl (ah (av := .v _) rfl) ?_)
        refine am rfl rfl <| aw rfl rfl (ah (av := .v _) rfl) <| am rfl rfl <| AO.call [.ty o 51] rfl en59 rfl (jY  o (.pt o 0) n hn) ?p2 ?k2 ?q2
        (case p2 => (exact bu _))
        (case q2 => (rintro c A' ⟨h, _⟩; cases h))
        rintro av A' ⟨h, t24, rfl⟩; cases h
        refine ag ?_
        -- END 1 (end)
        show cM _ _ _ _ .normal _
        first | exact ⟨rfl, _, _, fH rfl, bG _, rfl, rfl⟩ | (exfalso; omega)
      · have c2p := c2; try simp only [decide_eq_true_eq, decide_eq_false_iff_not, Bool.not_eq_true', Bool.not_eq_false', Bool.not_true, Bool.not_false, Bool.not_eq_eq_eq_not] at c2p
        refine aC ?_
        -- END 2 (end)
        show cM _ _ _ _ .normal _
        first | exact ⟨rfl, _, _, fH rfl, bG _, rfl, rfl⟩ | (exfalso; omega)
    · first | refine bw rfl (ao (i := 0) al rfl rfl rfl rfl) ?_ | refine bw rfl (ao (i := 1) al rfl rfl rfl rfl) ?_
      show AI _ _ _ _ _ _ #[true, true, true, false, false, true, true, true, true, false, false, true, false] _
      first | (refine aJ (i := 9) rfl rfl (by kernel_rfl) (by kernel_rfl) (by kernel_rfl) (fun _ _ h => by obtain ⟨_, _, _, h, _⟩ := h; cases h) (bE al rfl) ?_) | (refine aJ (i := 9) rfl rfl (by kernel_rfl) (by kernel_rfl) (by kernel_rfl) (fun _ _ h => by obtain ⟨_, _, _, h, _⟩ := h; cases h) (cD al rfl) ?_)
      show AI _ _ _ _ _ _ #[true, true, true, false, false, true, true, true, true, true, false, true, false] _;refine cj (i := 3) (by kernel_rfl) rfl rfl ?_
      first | refine bw rfl (ao (i := 0) al rfl rfl rfl rfl) ?_ | refine bw rfl (ao (i := 1) al rfl rfl rfl rfl) ?_
      show AI _ _ _ _ _ _ #[true, true, true, true, false, true, true, true, true, true, false, true, false] _
      first | (refine aJ (i := 4) rfl rfl (by kernel_rfl) (by kernel_rfl) (by kernel_rfl) (fun _ _ h => by obtain ⟨_, _, _, h, _⟩ := h; cases h) (iX al rfl) ?_) | (refine aJ (i := 4) rfl rfl (by kernel_rfl) (by kernel_rfl) (by kernel_rfl) (fun _ _ h => by obtain ⟨_, _, _, h, _⟩ := h; cases h) (opS_cap_vw al rfl) ?_)
      show AI _ _ _ _ _ _ #[true, true, true, true, true, true, true, true, true, true, false, true, false] _
      refine aJ (i := 10) rfl rfl (by kernel_rfl) (by kernel_rfl) (by kernel_rfl) (fun _ _ h => by obtain ⟨_, _, _, h, _⟩ := h; cases h) (ma rfl rfl ?h4) ?_; (case h4 => (omega))
      show AI _ _ _ _ _ _ #[true, true, true, true, true, true, true, true, true, true, true, true, false] _;refine aJ (i := 12) rfl rfl (by kernel_rfl) (by kernel_rfl) (by kernel_rfl) (fun _ _ h => by obtain ⟨_, _, _, h, _⟩ := h; cases h) (cd rfl rfl) ?_;show AI _ _ _ _ _ _ #[true, true, true, true, true, true, true, true, true, true, true, true, true] _;refine cT rfl <| ax rfl (fun c3 => ?_) (fun c3 => ?_)
      · have c3p := c3; try simp only [decide_eq_true_eq, decide_eq_false_iff_not, Bool.not_eq_true', Bool.not_eq_false', Bool.not_true, Bool.not_false, Bool.not_eq_eq_eq_not] at c3p
        refine aa ?_;show AR _ _ _ _ _ [0, 1, 2] _;refine am rfl rfl ?_
        first | (refine aw rfl rfl (ah (av := .pt _ _) rfl) ?_) | (refine aw rfl rfl (ah (av := .cp _) rfl) ?_) | (refine aw rfl rfl (ah (av := .v _) rfl) ?_)
        refine am rfl rfl <| aw rfl rfl (ah (av := .v _) rfl) <| am rfl rfl <| AO.call [.ty o 51] rfl en59 rfl (jY  o (.pt o 0) n hn) ?p3 ?k3 ?q3
        (case p3 => (exact bu _))
        (case q3 => (rintro c A' ⟨h, _⟩; cases h))
        rintro av A' ⟨h, t24, rfl⟩; cases h
        refine ag ?_
        -- END 3 (end)
        show cM _ _ _ _ .normal _
        first | exact ⟨rfl, _, _, fH rfl, bG _, rfl, rfl⟩ | (exfalso; omega)
      · have c3p := c3; try simp only [decide_eq_true_eq, decide_eq_false_iff_not, Bool.not_eq_true', Bool.not_eq_false', Bool.not_true, Bool.not_false, Bool.not_eq_eq_eq_not] at c3p
        refine aC ?_
        -- END 4 (end)
        show cM _ _ _ _ .normal _
        first | exact ⟨rfl, _, _, fH rfl, bG _, rfl, rfl⟩ | (exfalso; omega)
set_option maxRecDepth 100000 in
set_option maxHeartbeats 1000000 in
theorem rJ (o : Nat) (a : AV) (ha : a = .v (.pointer none) ∨ a = .pt o 0) (n : Nat) (hn : n ≤ 1000000000) (hz : 0 < n) :
    ACalls Tryz.prog 45 [.pt o 0, i64 n] [.obj o [a, eH], .ty o 51] (fun e A' => e = .ret (.tup []) ∧ ∃ t', A' = [.tok t' 5, .obj o [.pt o 0, slE Enc.byte [] (some t')], .ty o 51]) := by
  refine ap Tryz.func45 rfl rfl ?_;show AW _ _ 25 _ _ _;refine af <| aa ?_;show AR _ _ _ _ _ [0, 1] _;refine am rfl rfl ?_
  first | (refine aw rfl rfl (ah (av := .pt _ _) rfl) ?_) | (refine aw rfl rfl (ah (av := .cp _) rfl) ?_) | (refine aw rfl rfl (ah (av := .v _) rfl) ?_)
  refine am rfl rfl <| AO.call [] rfl en28 rfl (iy  o a eH ha) ?p1 ?k1 ?q1
  (case p1 => (exact bu _))
  (case q1 => (rintro c A' ⟨h, _⟩; cases h))
  rintro av A' ⟨h, rfl⟩; cases h
  refine ag <| af <| af <| aa ?_;show AR _ _ _ _ _ [0, 1] _;refine am rfl rfl <| aw rfl rfl (ah (av := .v _) rfl) <| am rfl rfl <| aw rfl rfl (cd rfl rfl) <| ag <| ax rfl (fun c1 => ?_) (fun c1 => ?_)
  · have c1p := c1; try simp only [decide_eq_true_eq, decide_eq_false_iff_not, Bool.not_eq_true', Bool.not_eq_false', Bool.not_true, Bool.not_false, Bool.not_eq_eq_eq_not] at c1p
    refine aa ?_;show AR _ _ _ _ _ [0, 1] _;refine am rfl rfl <| aw rfl rfl (bf (a := .v _) ai rfl rfl) <| am rfl rfl ?_
    exfalso; first | omega | simp_all
  · have c1p := c1; try simp only [decide_eq_true_eq, decide_eq_false_iff_not, Bool.not_eq_true', Bool.not_eq_false', Bool.not_true, Bool.not_false, Bool.not_eq_eq_eq_not] at c1p
    refine aC <| af <| cw (by kernel_rfl) ?_;show AI _ _ _ _ _ 13 (Array.replicate 13 false) _
    first | (refine aJ (i := 0) rfl rfl (by kernel_rfl) (by kernel_rfl) (by kernel_rfl) (fun _ _ h => by obtain ⟨_, _, _, h, _⟩ := h; cases h) (ah (av := .pt _ _) rfl) ?_) | (refine aJ (i := 0) rfl rfl (by kernel_rfl) (by kernel_rfl) (by kernel_rfl) (fun _ _ h => by obtain ⟨_, _, _, h, _⟩ := h; cases h) (ah (av := .cp _) rfl) ?_) | (refine aJ (i := 0) rfl rfl (by kernel_rfl) (by kernel_rfl) (by kernel_rfl) (fun _ _ h => by obtain ⟨_, _, _, h, _⟩ := h; cases h) (ah (av := .v _) rfl) ?_)
    show AI _ _ _ _ _ _ #[true, false, false, false, false, false, false, false, false, false, false, false, false] _
    first | (refine aJ (i := 1) rfl rfl (by kernel_rfl) (by kernel_rfl) (by kernel_rfl) (fun _ _ h => by obtain ⟨_, _, _, h, _⟩ := h; cases h) (ar rfl) ?_) | (refine aJ (i := 1) rfl rfl (by kernel_rfl) (by kernel_rfl) (by kernel_rfl) (fun _ _ h => by obtain ⟨_, _, _, h, _⟩ := h; cases h) (bq rfl) ?_) | (refine aJ (i := 1) rfl rfl (by kernel_rfl) (by kernel_rfl) (by kernel_rfl) (fun _ _ h => by obtain ⟨_, _, _, h, _⟩ := h; cases h) (bp rfl) ?_)
    show AI _ _ _ _ _ _ #[true, true, false, false, false, false, false, false, false, false, false, false, false] _;refine aJ (i := 2) rfl rfl (by kernel_rfl) (by kernel_rfl) (by kernel_rfl) (fun _ _ h => by obtain ⟨_, _, _, h, _⟩ := h; cases h) (an (n := 1) (by kernel_rfl) rfl) ?_;show AI _ _ _ _ _ _ #[true, true, true, false, false, false, false, false, false, false, false, false, false] _
    first | (refine aJ (i := 5) rfl rfl (by kernel_rfl) (by kernel_rfl) (by kernel_rfl) (fun _ _ h => by obtain ⟨_, _, _, h, _⟩ := h; cases h) (ah (av := .pt _ _) rfl) ?_) | (refine aJ (i := 5) rfl rfl (by kernel_rfl) (by kernel_rfl) (by kernel_rfl) (fun _ _ h => by obtain ⟨_, _, _, h, _⟩ := h; cases h) (ah (av := .cp _) rfl) ?_) | (refine aJ (i := 5) rfl rfl (by kernel_rfl) (by kernel_rfl) (by kernel_rfl) (fun _ _ h => by obtain ⟨_, _, _, h, _⟩ := h; cases h) (ah (av := .v _) rfl) ?_)
    show AI _ _ _ _ _ _ #[true, true, true, false, false, true, false, false, false, false, false, false, false] _
    first | (refine aJ (i := 6) rfl rfl (by kernel_rfl) (by kernel_rfl) (by kernel_rfl) (fun _ _ h => by obtain ⟨_, _, _, h, _⟩ := h; cases h) (ar rfl) ?_) | (refine aJ (i := 6) rfl rfl (by kernel_rfl) (by kernel_rfl) (by kernel_rfl) (fun _ _ h => by obtain ⟨_, _, _, h, _⟩ := h; cases h) (bq rfl) ?_) | (refine aJ (i := 6) rfl rfl (by kernel_rfl) (by kernel_rfl) (by kernel_rfl) (fun _ _ h => by obtain ⟨_, _, _, h, _⟩ := h; cases h) (bp rfl) ?_)
    show AI _ _ _ _ _ _ #[true, true, true, false, false, true, true, false, false, false, false, false, false] _;refine aJ (i := 7) rfl rfl (by kernel_rfl) (by kernel_rfl) (by kernel_rfl) (fun _ _ h => by obtain ⟨_, _, _, h, _⟩ := h; cases h) (an (n := 1) (by kernel_rfl) rfl) ?_;show AI _ _ _ _ _ _ #[true, true, true, false, false, true, true, true, false, false, false, false, false] _;refine aJ (i := 11) rfl rfl (by kernel_rfl) (by kernel_rfl) (by kernel_rfl) (fun _ _ h => by obtain ⟨_, _, _, h, _⟩ := h; cases h) (ah (av := .v _) rfl) ?_;show AI _ _ _ _ _ _ #[true, true, true, false, false, true, true, true, false, false, false, true, false] _;refine AI.two (i := 3) (j := 8) (by kernel_rfl) rfl rfl rfl rfl ?_ ?_
    · first | refine bw rfl (ao (i := 0) al rfl rfl rfl rfl) ?_ | refine bw rfl (ao (i := 1) al rfl rfl rfl rfl) ?_
      show AI _ _ _ _ _ _ #[true, true, true, true, false, true, true, true, false, false, false, true, false] _
      first | (refine aJ (i := 4) rfl rfl (by kernel_rfl) (by kernel_rfl) (by kernel_rfl) (fun _ _ h => by obtain ⟨_, _, _, h, _⟩ := h; cases h) (iX al rfl) ?_) | (refine aJ (i := 4) rfl rfl (by kernel_rfl) (by kernel_rfl) (by kernel_rfl) (fun _ _ h => by obtain ⟨_, _, _, h, _⟩ := h; cases h) (opS_cap_vw al rfl) ?_)
      show AI _ _ _ _ _ _ #[true, true, true, true, true, true, true, true, false, false, false, true, false] _;refine cj (i := 8) (by kernel_rfl) rfl rfl ?_
      first | refine bw rfl (ao (i := 0) al rfl rfl rfl rfl) ?_ | refine bw rfl (ao (i := 1) al rfl rfl rfl rfl) ?_
      show AI _ _ _ _ _ _ #[true, true, true, true, true, true, true, true, true, false, false, true, false] _
      first | (refine aJ (i := 9) rfl rfl (by kernel_rfl) (by kernel_rfl) (by kernel_rfl) (fun _ _ h => by obtain ⟨_, _, _, h, _⟩ := h; cases h) (bE al rfl) ?_) | (refine aJ (i := 9) rfl rfl (by kernel_rfl) (by kernel_rfl) (by kernel_rfl) (fun _ _ h => by obtain ⟨_, _, _, h, _⟩ := h; cases h) (cD al rfl) ?_)
      show AI _ _ _ _ _ _ #[true, true, true, true, true, true, true, true, true, true, false, true, false] _
      refine aJ (i := 10) rfl rfl (by kernel_rfl) (by kernel_rfl) (by kernel_rfl) (fun _ _ h => by obtain ⟨_, _, _, h, _⟩ := h; cases h) (ma rfl rfl ?h2) ?_; (case h2 => (omega))
      show AI _ _ _ _ _ _ #[true, true, true, true, true, true, true, true, true, true, true, true, false] _;refine aJ (i := 12) rfl rfl (by kernel_rfl) (by kernel_rfl) (by kernel_rfl) (fun _ _ h => by obtain ⟨_, _, _, h, _⟩ := h; cases h) (cd rfl rfl) ?_;show AI _ _ _ _ _ _ #[true, true, true, true, true, true, true, true, true, true, true, true, true] _;refine cT rfl <| ax rfl (fun c2 => ?_) (fun c2 => ?_)
      · have c2p := c2; try simp only [decide_eq_true_eq, decide_eq_false_iff_not, Bool.not_eq_true', Bool.not_eq_false', Bool.not_true, Bool.not_false, Bool.not_eq_eq_eq_not] at c2p
        refine aa ?_;show AR _ _ _ _ _ [0, 1, 2] _;refine am rfl rfl ?_
        first | (refine aw rfl rfl (ah (av := .pt _ _) rfl) ?_) | (refine aw rfl rfl (ah (av := .cp _) rfl) ?_) | (refine aw rfl rfl (ah (av := .v _) rfl) ?_)
        refine am rfl rfl <| aw rfl rfl (ah (av := .v _) rfl) <| am rfl rfl <| AO.call [.ty o 51] rfl en59 rfl (jY  o (.pt o 0) n hn) ?p2 ?k2 ?q2
        (case p2 => (exact bu _))
        (case q2 => (rintro c A' ⟨h, _⟩; cases h))
        rintro av A' ⟨h, t24, rfl⟩; cases h
        refine ag ?_
        -- END 1 (end)
        show cM _ _ _ _ .normal _
        first | exact ⟨rfl, _, _, fH rfl, bG _, rfl, t24, rfl⟩ | (exfalso; omega)
      · have c2p := c2; try simp only [decide_eq_true_eq, decide_eq_false_iff_not, Bool.not_eq_true', Bool.not_eq_false', Bool.not_true, Bool.not_false, Bool.not_eq_eq_eq_not] at c2p
        refine aC ?_
        -- END 2 (end)
        show cM _ _ _ _ .normal _
        first | exact ⟨rfl, _, _, fH rfl, bG _, rfl, t24, rfl⟩ | (exfalso; omega)
    · first | refine bw rfl (ao (i := 0) al rfl rfl rfl rfl) ?_ | refine bw rfl (ao (i := 1) al rfl rfl rfl rfl) ?_
      show AI _ _ _ _ _ _ #[true, true, true, false, false, true, true, true, true, false, false, true, false] _
      first | (refine aJ (i := 9) rfl rfl (by kernel_rfl) (by kernel_rfl) (by kernel_rfl) (fun _ _ h => by obtain ⟨_, _, _, h, _⟩ := h; cases h) (bE al rfl) ?_) | (refine aJ (i := 9) rfl rfl (by kernel_rfl) (by kernel_rfl) (by kernel_rfl) (fun _ _ h => by obtain ⟨_, _, _, h, _⟩ := h; cases h) (cD al rfl) ?_)
      show AI _ _ _ _ _ _ #[true, true, true, false, false, true, true, true, true, true, false, true, false] _;refine cj (i := 3) (by kernel_rfl) rfl rfl ?_
      first | refine bw rfl (ao (i := 0) al rfl rfl rfl rfl) ?_ | refine bw rfl (ao (i := 1) al rfl rfl rfl rfl) ?_
      show AI _ _ _ _ _ _ #[true, true, true, true, false, true, true, true, true, true, false, true, false] _
      first | (refine aJ (i := 4) rfl rfl (by kernel_rfl) (by kernel_rfl) (by kernel_rfl) (fun _ _ h => by obtain ⟨_, _, _, h, _⟩ := h; cases h) (iX al rfl) ?_) | (refine aJ (i := 4) rfl rfl (by kernel_rfl) (by kernel_rfl) (by kernel_rfl) (fun _ _ h => by obtain ⟨_, _, _, h, _⟩ := h; cases h) (opS_cap_vw al rfl) ?_)
      show AI _ _ _ _ _ _ #[true, true, true, true, true, true, true, true, true, true, false, true, false] _
      refine aJ (i := 10) rfl rfl (by kernel_rfl) (by kernel_rfl) (by kernel_rfl) (fun _ _ h => by obtain ⟨_, _, _, h, _⟩ := h; cases h) (ma rfl rfl ?h4) ?_; (case h4 => (omega))
      show AI _ _ _ _ _ _ #[true, true, true, true, true, true, true, true, true, true, true, true, false] _;refine aJ (i := 12) rfl rfl (by kernel_rfl) (by kernel_rfl) (by kernel_rfl) (fun _ _ h => by obtain ⟨_, _, _, h, _⟩ := h; cases h) (cd rfl rfl) ?_;show AI _ _ _ _ _ _ #[true, true, true, true, true, true, true, true, true, true, true, true, true] _;refine cT rfl <| ax rfl (fun c3 => ?_) (fun c3 => ?_)
      · have c3p := c3; try simp only [decide_eq_true_eq, decide_eq_false_iff_not, Bool.not_eq_true', Bool.not_eq_false', Bool.not_true, Bool.not_false, Bool.not_eq_eq_eq_not] at c3p
        refine aa ?_;show AR _ _ _ _ _ [0, 1, 2] _;refine am rfl rfl ?_
        first | (refine aw rfl rfl (ah (av := .pt _ _) rfl) ?_) | (refine aw rfl rfl (ah (av := .cp _) rfl) ?_) | (refine aw rfl rfl (ah (av := .v _) rfl) ?_)
        refine am rfl rfl <| aw rfl rfl (ah (av := .v _) rfl) <| am rfl rfl <| AO.call [.ty o 51] rfl en59 rfl (jY  o (.pt o 0) n hn) ?p3 ?k3 ?q3
        (case p3 => (exact bu _))
        (case q3 => (rintro c A' ⟨h, _⟩; cases h))
        rintro av A' ⟨h, t24, rfl⟩; cases h
        refine ag ?_
        -- END 3 (end)
        show cM _ _ _ _ .normal _
        first | exact ⟨rfl, _, _, fH rfl, bG _, rfl, t24, rfl⟩ | (exfalso; omega)
      · have c3p := c3; try simp only [decide_eq_true_eq, decide_eq_false_iff_not, Bool.not_eq_true', Bool.not_eq_false', Bool.not_true, Bool.not_false, Bool.not_eq_eq_eq_not] at c3p
        refine aC ?_
        -- END 4 (end)
        show cM _ _ _ _ .normal _
        first | exact ⟨rfl, _, _, fH rfl, bG _, rfl, t24, rfl⟩ | (exfalso; omega)
theorem sW (o : Nat) (a : AV) (ha : a = .v (.pointer none) ∨ a = .pt o 0) (n : Nat) (hn : n ≤ 1000000000) : ACalls Tryz.prog 45 [.pt o 0, i64 n] [.obj o [a, eH], .ty o 51] (fun e A' => e = .ret (.tup []) ∧ ∃ t', A' = [.tok t' 5, .obj o [.pt o 0, slE Enc.byte [] (some t')], .ty o 51]) := by
  by_cases hz : n = 0
  · refine (rI  o a ha n hn hz).conv fun ae A' h F I w hI => ?_
    obtain ⟨h1, rfl⟩ := h;obtain ⟨I', t, E, hI'⟩ := vY hI 1 1 5 rfl;exact ⟨I', _, E, hI', h1, t, rfl⟩
  · exact rJ  o a ha n hn (by omega)
end Go.Proofs.YtkbfjepffpddfaaGreatDoor
namespace Go.Proofs.YtkbfjepffpddfaaGreatDoor
open Go.RowKit Go.Av
abbrev _root_.Go.Av.au := @Tryz.underlying61
set_option maxRecDepth 100000 in
set_option maxHeartbeats 1000000 in
theorem pp (l : List (List UInt8)) (sep : List UInt8) (tl : Option Nat) (hb : sep.length * l.length + Str.total l ≤ 1000000000) (hl : l.length ≤ 1000000000) :
    ACalls Tryz.prog 30 [slE Enc.str l tl, S sep] [] (Ret (S (Str.join sep l)) []) := by
  refine ap Tryz.func30 rfl rfl ?_;show AW _ _ 75 _ _ _;refine af <| aa ?_;show AR _ _ _ _ _ [0] _;refine am rfl rfl <| aw rfl rfl (aH (av := .v _) rfl) <| ag <| af <| af <| aa ?_;show AR _ _ _ _ _ [0, 1] _;refine am rfl rfl ?_
  first | (refine aw rfl rfl (ah (av := slE _ _ _) rfl) ?_) | (refine aw rfl rfl (ah (av := .v _) rfl) ?_) | (refine aw rfl rfl (ah (av := .vw _ _ _ _) rfl) ?_)
  refine am rfl rfl ?_
  first | (refine aw rfl rfl (bE au rfl) ?_) | (refine aw rfl rfl (cD au rfl) ?_)
  refine ag <| aU <| af <| aa ?_;show AR _ _ _ _ _ [0, 1] _;refine am rfl rfl <| aw rfl rfl (bJ rfl rfl) <| am rfl rfl <| aw rfl rfl (aH (av := .v _) rfl) <| ag <| ax rfl (fun c1 => ?_) (fun c1 => ?_)
  · have c1p := c1; try simp only [decide_eq_true_eq, decide_eq_false_iff_not, Bool.not_eq_true', Bool.not_eq_false', Bool.not_true, Bool.not_false, Bool.not_eq_eq_eq_not] at c1p
    refine af <| aa ?_;show AR _ _ _ _ _ [0] _;refine am rfl rfl <| aw rfl rfl (aH (av := .v _) rfl) <| ag <| aG ?_
    -- END 1 (ret)
    show cM _ _ _ _ .ret _
    have h0 : l = [] := List.length_eq_zero_iff.1 (by omega)
    subst h0
    (refine ⟨rfl, _, _, aF rfl ?_, ?_, ⟨rfl, rfl⟩⟩; all_goals first | exact bG _ | exact ba _ | ((repeat (first | exact bG _ | exact ba _ | refine fo _ ?_ | refine fm _ ?_)); done) | exact Wv.refl _ | exact Wv.tok _ _ _ | exact Wv.nil _)
  · have c1p := c1; try simp only [decide_eq_true_eq, decide_eq_false_iff_not, Bool.not_eq_true', Bool.not_eq_false', Bool.not_true, Bool.not_false, Bool.not_eq_eq_eq_not] at c1p
    refine af <| aa ?_;show AR _ _ _ _ _ [0, 1] _;refine am rfl rfl <| aw rfl rfl (bJ rfl rfl) <| am rfl rfl <| aw rfl rfl (aH (av := .v _) rfl) <| ag <| ax rfl (fun c2 => ?_) (fun c2 => ?_)
    · have c2p := c2; try simp only [decide_eq_true_eq, decide_eq_false_iff_not, Bool.not_eq_true', Bool.not_eq_false', Bool.not_true, Bool.not_false, Bool.not_eq_eq_eq_not] at c2p
      refine af <| aa ?_;show AR _ _ _ _ _ [0, 1, 2, 3] _;refine am rfl rfl ?_
      first | (refine aw rfl rfl (ah (av := slE _ _ _) rfl) ?_) | (refine aw rfl rfl (ah (av := .v _) rfl) ?_) | (refine aw rfl rfl (ah (av := .vw _ _ _ _) rfl) ?_)
      refine am rfl rfl <| aw rfl rfl (gL (m := 0) au (by kernel_rfl) rfl rfl ?h1 ?h2) ?_
      (case h1 => (omega))
      (case h2 => (omega))
      refine am rfl rfl ?_
      first | refine aw rfl rfl (aL ai rfl rfl) ?_ | refine ck rfl rfl (ao (i := 0) ai rfl rfl rfl rfl) ?_ | refine ck rfl rfl (ao (i := 1) ai rfl rfl rfl rfl) ?_ | refine ck rfl rfl (ao (i := 2) ai rfl rfl rfl rfl) ?_ | refine ck rfl rfl (ao (i := 3) ai rfl rfl rfl rfl) ?_
      refine am rfl rfl <| aw rfl rfl (aH (av := .v _) rfl) <| ag <| aG ?_
      -- END 2 (ret)
      show cM _ _ _ _ .ret _
      rw [Str.join_one sep l (by omega) (by omega)]
      (refine ⟨rfl, _, _, aF rfl ?_, ?_, ⟨rfl, rfl⟩⟩; all_goals first | exact bG _ | exact ba _ | ((repeat (first | exact bG _ | exact ba _ | refine fo _ ?_ | refine fm _ ?_)); done) | exact Wv.refl _ | exact Wv.tok _ _ _ | exact Wv.nil _)
    · have c2p := c2; try simp only [decide_eq_true_eq, decide_eq_false_iff_not, Bool.not_eq_true', Bool.not_eq_false', Bool.not_true, Bool.not_false, Bool.not_eq_eq_eq_not] at c2p
      have hl2 : 2 ≤ l.length := by omega
      have hm := Str.mul_bounds sep.length l.length 1000000000 (by omega) (by omega)
      refine aC <| af <| aa ?_;show AR _ _ _ _ _ [0] _;refine am rfl rfl <| aw rfl rfl (aH (av := .v _) rfl) <| ag <| bL (X := Nat) (fun n0 => ⟨[(0, slE Enc.str l tl), (1, S sep), (5, i64 n0)], [], []⟩) (fun n0 => n0 ≤ sep.length * l.length) ?_ ?_
      · refine af <| aa ?_;show AR _ _ _ _ _ [0, 1, 2] _;refine am rfl rfl <| aw rfl rfl (ah (av := .v _) rfl) <| am rfl rfl <| aw rfl rfl (bt ai rfl) <| am rfl rfl <| aw rfl rfl (gp rfl rfl) <| ag <| ax rfl (fun c3 => ?_) (fun c3 => ?_)
        · have c3p := c3; try simp only [decide_eq_true_eq, decide_eq_false_iff_not, Bool.not_eq_true', Bool.not_eq_false', Bool.not_true, Bool.not_false, Bool.not_eq_eq_eq_not] at c3p
          refine af <| af <| aa ?_;show AR _ _ _ _ _ [0, 1, 2, 3, 4, 5, 6] _;refine am rfl rfl <| aw rfl rfl (ah (av := .v _) rfl) <| am rfl rfl <| aw rfl rfl (bt ai rfl) <| am rfl rfl ?_
          first | (refine aw rfl rfl (ah (av := slE _ _ _) rfl) ?_) | (refine aw rfl rfl (ah (av := .v _) rfl) ?_) | (refine aw rfl rfl (ah (av := .vw _ _ _ _) rfl) ?_)
          refine am rfl rfl ?_
          first | (refine aw rfl rfl (bE au rfl) ?_) | (refine aw rfl rfl (cD au rfl) ?_)
          refine am rfl rfl <| aw rfl rfl (ma rfl rfl ?h4) ?_
          (case h4 => (omega))
          refine am rfl rfl <| aw rfl rfl (yj rfl rfl ?h6) ?_
          (case h6 => (omega))
          refine am rfl rfl <| aw rfl rfl (fB rfl rfl) <| ag <| ax rfl (fun c4 => ?_) (fun c4 => ?_)
          · have c4p := c4; try simp only [decide_eq_true_eq, decide_eq_false_iff_not, Bool.not_eq_true', Bool.not_eq_false', Bool.not_true, Bool.not_false, Bool.not_eq_eq_eq_not] at c4p
            exact absurd c4p (Str.quo_great _ _ 0 (by omega) (by omega) hl)
          · have c4p := c4; try simp only [decide_eq_true_eq, decide_eq_false_iff_not, Bool.not_eq_true', Bool.not_eq_false', Bool.not_true, Bool.not_false, Bool.not_eq_eq_eq_not] at c4p
            refine aC <| aa ?_;show AR _ _ _ _ _ [0, 1, 2, 3, 4, 5, 6, 7, 8] _;refine am rfl rfl <| aw rfl rfl (ah (av := .v _) rfl) <| am rfl rfl <| aw rfl rfl (ah (av := .v _) rfl) <| am rfl rfl <| aw rfl rfl (bt ai rfl) <| am rfl rfl ?_
            first | (refine aw rfl rfl (ah (av := slE _ _ _) rfl) ?_) | (refine aw rfl rfl (ah (av := .v _) rfl) ?_) | (refine aw rfl rfl (ah (av := .vw _ _ _ _) rfl) ?_)
            refine am rfl rfl ?_
            first | (refine aw rfl rfl (bE au rfl) ?_) | (refine aw rfl rfl (cD au rfl) ?_)
            refine am rfl rfl <| aw rfl rfl (ma rfl rfl ?h8) ?_
            (case h8 => (omega))
            refine am rfl rfl <| aw rfl rfl (rn rfl rfl ?h10) ?_
            (case h10 => (omega))
            refine am rfl rfl <| aw rfl rfl (nj rfl rfl ?h12) ?_
            (case h12 => (omega))
            refine am rfl rfl <| aw rfl rfl (aH (av := .v _) rfl) <| ag ?_
            -- END 3 (cut('p', 7))
            refine ⟨(sep.length * (l.length - 1)), ?_, ?_⟩
            · exact Nat.mul_le_mul_left _ (by omega)
            · refine WK.env (br ?_ (br ?_ (br ?_ (Env.le.nil _)))) ?_
              all_goals first | exact bG _ | exact ba _ | ((repeat (first | exact bG _ | exact ba _ | refine fo _ ?_ | refine fm _ ?_)); done) | exact Wv.refl _ | exact Wv.any _ | exact Wv.tok _ _ _ | exact Wv.nil _ | (refine Wv.of_eq ?_; first | rfl | exact jN (by omega) | (exact jN (Str.mul_cast _ _ (by omega))))
        · have c3p := c3; try simp only [decide_eq_true_eq, decide_eq_false_iff_not, Bool.not_eq_true', Bool.not_eq_false', Bool.not_true, Bool.not_false, Bool.not_eq_eq_eq_not] at c3p
          refine aC ?_
          -- END 4 (cut('p', 7))
          refine ⟨0, ?_, ?_⟩
          · exact Nat.zero_le _
          · refine WK.env (br ?_ (br ?_ (br ?_ (Env.le.nil _)))) ?_
            all_goals first | exact bG _ | exact ba _ | ((repeat (first | exact bG _ | exact ba _ | refine fo _ ?_ | refine fm _ ?_)); done) | exact Wv.refl _ | exact Wv.any _ | exact Wv.tok _ _ _ | exact Wv.nil _ | (refine Wv.of_eq ?_; first | rfl | exact jN (by omega) | (simp))
      · rintro n0 hn0
        refine af <| af <| aa ?_;show AR _ _ _ _ _ [0, 1, 2] _;refine am rfl rfl ?_
        first | (refine aw rfl rfl (ah (av := slE _ _ _) rfl) ?_) | (refine aw rfl rfl (ah (av := .v _) rfl) ?_) | (refine aw rfl rfl (ah (av := .vw _ _ _ _) rfl) ?_)
        refine am rfl rfl ?_
        first | (refine aw rfl rfl (bE au rfl) ?_) | (refine aw rfl rfl (cD au rfl) ?_)
        refine am rfl rfl <| aw rfl rfl (ah (av := .v _) rfl) <| ag <| aU <| dk (X := Nat × Nat) (fun (i, n) => ⟨[(0, slE Enc.str l tl), (1, S sep), (5, i64 n), (39, slE Enc.str l tl), (40, i64 l.length), (41, i64 i)], [], []⟩) (fun (i, n) => i ≤ l.length ∧ n + Str.total (l.drop i) ≤ 1000000000) (fun (i, n) => l.length - i) (0, n0) ?_ ?_ ?_
        · exact ⟨by omega, by simp; omega⟩
        · refine WK.env (br ?_ (br ?_ (br ?_ (br ?_ (br ?_ (br ?_ (Env.le.nil _))))))) ?_
          all_goals first | exact bG _ | exact ba _ | ((repeat (first | exact bG _ | exact ba _ | refine fo _ ?_ | refine fm _ ?_)); done) | exact Wv.refl _ | exact Wv.any _ | exact Wv.tok _ _ _ | exact Wv.nil _ | (refine Wv.of_eq ?_; first | rfl | exact jN (by omega) | (simp))
        · rintro ⟨i, n⟩ ⟨h1, h2⟩
          refine af <| aa ?_;show AR _ _ _ _ _ [0] _;refine am rfl rfl <| aw rfl rfl (cd rfl rfl) <| ag <| af <| ax rfl (fun c5 => ?_) (fun c5 => ?_)
          · have c5p := c5; try simp only [decide_eq_true_eq, decide_eq_false_iff_not, Bool.not_eq_true', Bool.not_eq_false', Bool.not_true, Bool.not_false, Bool.not_eq_eq_eq_not] at c5p
            refine aC <| af <| aU <| af <| aa ?_;show AR _ _ _ _ _ [0, 1, 2] _;refine am rfl rfl <| aw rfl rfl (gL au (by kernel_rfl) rfl rfl rfl ?h13) ?_
            (case h13 => (omega))
            refine am rfl rfl ?_
            first | refine aw rfl rfl (aL ai rfl rfl) ?_ | refine ck rfl rfl (ao (i := 0) ai rfl rfl rfl rfl) ?_ | refine ck rfl rfl (ao (i := 1) ai rfl rfl rfl rfl) ?_ | refine ck rfl rfl (ao (i := 2) ai rfl rfl rfl rfl) ?_ | refine ck rfl rfl (ao (i := 3) ai rfl rfl rfl rfl) ?_
            refine am rfl rfl <| aw rfl rfl (aH (av := .v _) rfl) <| ag <| af <| af <| aa ?_;show AR _ _ _ _ _ [0, 1, 2, 3, 4] _;refine am rfl rfl <| aw rfl rfl (ah (av := .v _) rfl) <| am rfl rfl <| aw rfl rfl (bt ai rfl) <| am rfl rfl <| aw rfl rfl (ah (av := .v _) rfl) <| am rfl rfl <| aw rfl rfl (ma rfl rfl ?h15) ?_
            (case h15 => (omega))
            refine am rfl rfl <| aw rfl rfl (gp rfl rfl) <| ag <| ax rfl (fun c6 => ?_) (fun c6 => ?_)
            · have c6p := c6; try simp only [decide_eq_true_eq, decide_eq_false_iff_not, Bool.not_eq_true', Bool.not_eq_false', Bool.not_true, Bool.not_false, Bool.not_eq_eq_eq_not] at c6p
              exfalso; have := Str.total_drop l i (by omega); omega
            · have c6p := c6; try simp only [decide_eq_true_eq, decide_eq_false_iff_not, Bool.not_eq_true', Bool.not_eq_false', Bool.not_true, Bool.not_false, Bool.not_eq_eq_eq_not] at c6p
              refine aC <| aa ?_;show AR _ _ _ _ _ [0, 1, 2, 3, 4] _;refine am rfl rfl <| aw rfl rfl (ah (av := .v _) rfl) <| am rfl rfl <| aw rfl rfl (ah (av := .v _) rfl) <| am rfl rfl <| aw rfl rfl (bt ai rfl) <| am rfl rfl <| aw rfl rfl (nj rfl rfl ?h17) ?_
              (case h17 => (omega))
              refine am rfl rfl <| aw rfl rfl (aH (av := .v _) rfl) <| ag <| aa ?_;show AR _ _ _ _ _ [0, 1] _;refine am rfl rfl <| aw rfl rfl (nj rfl rfl ?h19) ?_
              (case h19 => (omega))
              refine am rfl rfl <| aw rfl rfl (ah (av := .v _) rfl) <| ag ?_
              -- END 5 (loop1)
              refine ⟨(i + 1, n + l[i].length), ?_, ?_, ?_⟩
              · exact ⟨by omega, by have := Str.total_drop l i (by omega); omega⟩
              · (try simp only []); omega
              · refine WK.env (br ?_ (br ?_ (br ?_ (br ?_ (br ?_ (br ?_ (Env.le.nil _))))))) ?_
                all_goals first | exact bG _ | exact ba _ | ((repeat (first | exact bG _ | exact ba _ | refine fo _ ?_ | refine fm _ ?_)); done) | exact Wv.refl _ | exact Wv.any _ | exact Wv.tok _ _ _ | exact Wv.nil _ | (refine Wv.of_eq ?_; first | rfl | exact jN (by omega) | (simp))
          · have c5p := c5; try simp only [decide_eq_true_eq, decide_eq_false_iff_not, Bool.not_eq_true', Bool.not_eq_false', Bool.not_true, Bool.not_false, Bool.not_eq_eq_eq_not] at c5p
            refine cB <| af <| aa ?_;show AR _ _ _ _ _ [0] _;refine am rfl rfl <| AO.opx rfl rfl (oW (zs := [.pointer none, .slice none 0 0]) (by kernel_rfl)) ?_;rintro _ _ ⟨o8, rfl, rfl⟩;refine ag <| af <| aa ?_;show AR _ _ _ _ _ [0, 1] _;refine am rfl rfl <| aw rfl rfl (ah (av := .v _) rfl) <| am rfl rfl <| AO.call [] rfl en45 rfl (sW o8 (.v (.pointer none)) (.inl rfl) n (by omega)) ?p1 ?k1 ?q1
            (case p1 => (exact bu _))
            (case q1 => (rintro c A' ⟨h, _⟩; cases h))
            rintro av A' ⟨h, t57, rfl⟩; cases h
            refine ag <| af <| aa ?_;show AR _ _ _ _ _ [0, 1, 2, 3] _;refine am rfl rfl ?_
            first | (refine aw rfl rfl (ah (av := slE _ _ _) rfl) ?_) | (refine aw rfl rfl (ah (av := .v _) rfl) ?_) | (refine aw rfl rfl (ah (av := .vw _ _ _ _) rfl) ?_)
            refine am rfl rfl <| aw rfl rfl (gL (m := 0) au (by kernel_rfl) rfl rfl ?h20 ?h21) ?_
            (case h20 => (omega))
            (case h21 => (omega))
            refine am rfl rfl ?_
            first | refine aw rfl rfl (aL ai rfl rfl) ?_ | refine ck rfl rfl (ao (i := 0) ai rfl rfl rfl rfl) ?_ | refine ck rfl rfl (ao (i := 1) ai rfl rfl rfl rfl) ?_ | refine ck rfl rfl (ao (i := 2) ai rfl rfl rfl rfl) ?_ | refine ck rfl rfl (ao (i := 3) ai rfl rfl rfl rfl) ?_
            refine am rfl rfl <| AO.call [] rfl en17 rfl (cC o8 _ (.inr rfl) [] l[0] t57 (by have := Str.total_drop l 0 (by omega); simp at this ⊢; omega)) ?p2 ?k2 ?q2
            (case p2 => (exact List.Perm.trans (List.Perm.swap _ _ _) ((List.Perm.swap _ _ _).cons _)))
            (case q2 => (rintro c A' ⟨h, _⟩; cases h))
            rintro av A' ⟨h, t61, rfl⟩; cases h
            refine ag <| af <| af <| aa ?_;show AR _ _ _ _ _ [0, 1, 2, 3] _;refine am rfl rfl ?_
            first | (refine aw rfl rfl (ah (av := slE _ _ _) rfl) ?_) | (refine aw rfl rfl (ah (av := .v _) rfl) ?_) | (refine aw rfl rfl (ah (av := .vw _ _ _ _) rfl) ?_)
            refine am rfl rfl <| aw rfl rfl (pd (lo := 1) au (by kernel_rfl) rfl rfl ?h23 ?h24) ?_
            (case h23 => (omega))
            (case h24 => (first | omega | (simp; done) | (simp; omega)))
            refine am rfl rfl ?_
            first | (refine aw rfl rfl (bE au rfl) ?_) | (refine aw rfl rfl (cD au rfl) ?_)
            refine am rfl rfl <| aw rfl rfl (ah (av := .v _) rfl) <| ag <| aU <| dk (X := Nat × List UInt8 × Nat) (fun (i, out, t) => ⟨[(0, slE Enc.str l tl), (1, S sep), (8, .pt o8 0), (63, slE Enc.str (l.drop 1) none), (64, i64 ((l.drop 1).length : Nat)), (65, i64 i)], [], [.obj o8 [.pt o8 0, slE Enc.byte out (some t)], .ty o8 51, .tok t 5]⟩) (fun (i, out, t) => i ≤ l.length - 1 ∧ out ++ Str.rest sep (l.drop (i + 1)) = Str.join sep l) (fun (i, out, t) => l.length - i) (0, l[0], t61) ?_ ?_ ?_
            · exact ⟨by omega, (Str.join_at sep l (by omega)).symm⟩
            · refine WK.env (br ?_ (br ?_ (br ?_ (br ?_ (br ?_ (br ?_ (Env.le.nil _))))))) ?_
              all_goals first | exact bG _ | exact ba _ | ((repeat (first | exact bG _ | exact ba _ | refine fo _ ?_ | refine fm _ ?_)); done) | exact Wv.refl _ | exact Wv.any _ | exact Wv.tok _ _ _ | exact Wv.nil _ | (refine Wv.of_eq ?_; first | rfl | exact jN (by omega) | (simp))
            · rintro ⟨i, out, t⟩ ⟨h1, h2⟩
              refine af <| aa ?_;show AR _ _ _ _ _ [0] _;refine am rfl rfl <| aw rfl rfl (cd rfl rfl) <| ag <| af <| ax rfl (fun c7 => ?_) (fun c7 => ?_)
              · have c7p := c7; try simp only [decide_eq_true_eq, decide_eq_false_iff_not, Bool.not_eq_true', Bool.not_eq_false', Bool.not_true, Bool.not_false, Bool.not_eq_eq_eq_not] at c7p
                have hd : (l.drop 1).length = l.length - 1 := by simp
                have hi : i < (l.drop 1).length := by omega
                have hroom := Str.room sep out l (i + 1) (by omega) h2 hb
                refine aC <| af <| aU <| af <| aa ?_;show AR _ _ _ _ _ [0, 1, 2] _;refine am rfl rfl <| aw rfl rfl (gL au (by kernel_rfl) rfl rfl rfl ?h25) ?_
                (case h25 => (omega))
                refine am rfl rfl ?_
                first | refine aw rfl rfl (aL ai rfl rfl) ?_ | refine ck rfl rfl (ao (i := 0) ai rfl rfl rfl rfl) ?_ | refine ck rfl rfl (ao (i := 1) ai rfl rfl rfl rfl) ?_ | refine ck rfl rfl (ao (i := 2) ai rfl rfl rfl rfl) ?_ | refine ck rfl rfl (ao (i := 3) ai rfl rfl rfl rfl) ?_
                refine am rfl rfl <| aw rfl rfl (aH (av := .v _) rfl) <| ag <| af <| aa ?_;show AR _ _ _ _ _ [0, 1] _;refine am rfl rfl <| aw rfl rfl (ah (av := .v _) rfl) <| am rfl rfl <| AO.call [] rfl en17 rfl (cC o8 _ (.inr rfl) out sep t (by omega)) ?p3 ?k3 ?q3
                (case p3 => (exact bu _))
                (case q3 => (rintro c A' ⟨h, _⟩; cases h))
                rintro av A' ⟨h, t70, rfl⟩; cases h
                refine ag <| aa ?_;show AR _ _ _ _ _ [0, 1] _;refine am rfl rfl <| aw rfl rfl (ah (av := .v _) rfl) <| am rfl rfl <| AO.call [] rfl en17 rfl (cC o8 _ (.inr rfl) (out ++ sep) (l.drop 1)[i] t70 (by simp [List.getElem_drop, Nat.add_comm 1 i] at *; omega)) ?p4 ?k4 ?q4
                (case p4 => (exact bu _))
                (case q4 => (rintro c A' ⟨h, _⟩; cases h))
                rintro av A' ⟨h, t72, rfl⟩; cases h
                refine ag <| aa ?_;show AR _ _ _ _ _ [0, 1] _;refine am rfl rfl <| aw rfl rfl (nj rfl rfl ?h27) ?_
                (case h27 => (omega))
                refine am rfl rfl <| aw rfl rfl (ah (av := .v _) rfl) <| ag ?_
                -- END 6 (loop2)
                refine ⟨(i + 1, out ++ sep ++ (l.drop 1)[i], t72), ?_, ?_, ?_⟩
                · refine ⟨by omega, ?_⟩
                  rw [← h2, Str.rest_drop sep l (i + 1) (by omega)]
                  simp [List.getElem_drop, Nat.add_comm]
                · (try simp only []); omega
                · refine WK.env (br ?_ (br ?_ (br ?_ (br ?_ (br ?_ (br ?_ (Env.le.nil _))))))) ?_
                  all_goals first | exact bG _ | exact ba _ | ((repeat (first | exact bG _ | exact ba _ | refine fo _ ?_ | refine fm _ ?_)); done) | exact Wv.refl _ | exact Wv.any _ | exact Wv.tok _ _ _ | exact Wv.nil _ | (refine Wv.of_eq ?_; first | rfl | exact jN (by omega) | (simp))
              · have c7p := c7; try simp only [decide_eq_true_eq, decide_eq_false_iff_not, Bool.not_eq_true', Bool.not_eq_false', Bool.not_true, Bool.not_false, Bool.not_eq_eq_eq_not] at c7p
                have hd : (l.drop 1).length = l.length - 1 := by simp
                have hroom := Str.out_room sep out _ l h2 hb
                refine cB <| af <| aa ?_;show AR _ _ _ _ _ [0, 1] _;refine am rfl rfl <| AO.call [.ty o8 51] rfl en19 rfl (kD o8 (.pt o8 0) out t (by omega)) ?p5 ?k5 ?q5
                (case p5 => (exact (List.Perm.swap _ _ _).cons _))
                (case q5 => (rintro c A' ⟨h, _⟩; cases h))
                rintro av A' ⟨h, rfl⟩; cases h
                refine am rfl rfl <| aw rfl rfl (aH (av := .v _) rfl) <| ag <| aG ?_
                -- END 7 (ret)
                show cM _ _ _ _ .ret _
                rw [Str.rest_end sep l (i + 1) (by omega), List.append_nil] at h2
                rw [← h2]
                (refine ⟨rfl, _, _, aF rfl ?_, ?_, ⟨rfl, rfl⟩⟩; all_goals first | exact bG _ | exact ba _ | ((repeat (first | exact bG _ | exact ba _ | refine fo _ ?_ | refine fm _ ?_)); done) | exact Wv.refl _ | exact Wv.tok _ _ _ | exact Wv.nil _)
end Go.Proofs.YtkbfjepffpddfaaGreatDoor
namespace Go.Av
open Go.RowKit
def ResT (P : Program) (fn : Func) (N : Nat) (e : Env) (A : List Chunk) (av : AV) : Prop :=
  ∀ F I w tmps, Inv I (A ++ F) w → tmps.size = N → (∀ t, Rel I w (ev e t) (tmps.getD t undef)) → ∃ v, (results fn tmps).run P w = .ok v w ∧ Rel I w av v
def ADCalls (P : Program) (f : FuncId) (args : List AV) (A : List Chunk) (u : FrameMode) (R : AE → FrameMode → List Chunk → Prop) : Prop :=
  ∀ F I w vs, Inv I (A ++ F) w → RelL I w args vs → CallsD P f vs.toArray u w fun e u' w' => ∃ I' ae A', Ext I w I' w' ∧ Inv I' (A' ++ F) w' ∧ RelE I' w' ae e ∧ R ae u' A'
def ALeaves (P : Program) (fn : Func) (N : Nat) (e : Env) (R : AE → List Chunk → Prop) : List ADef → FrameMode → List Chunk → Prop
  | [], .returning, A => ∃ av A', ResT P fn N e A av ∧ Sub A' A ∧ R (.ret av) A'
  | [], .panicking c, A => ∃ A', Sub A' A ∧ R (.pan c) A'
  | [], .run, _ => False
  | .call f cap args :: ds, u, A => u ≠ .run ∧ ∃ g A1 B, f = .func g ∧ (∀ as_ w, (callFunc g as_).run P w = .ok (.enter g as_) w) ∧ A.Perm (A1 ++ B) ∧
      ADCalls P g (args ++ cap) A1 u fun ae u' A' => match ae with
        | .ret _ => ALeaves P fn N e R ds (settle u') (A' ++ B)
        | .pan c => ALeaves P fn N e R ds (raised u' c) (A' ++ B)
  | .mark _ :: _, _, _ => False
section
variable {P : Program} {fn : Func} {N : Nat} {e : Env} {R : AE → List Chunk → Prop} {F : List Chunk} {I0 : Info} {w0 : World}
theorem ALeaves.sound : ∀ (ads : List ADef) (u : FrameMode) (A : List Chunk) (ds : List Deferred) (I : Info) (w : World) (tmps : Array Value),
    Ext I0 w0 I w → Inv I (A ++ F) w → tmps.size = N → (∀ t, Rel I w (ev e t) (tmps.getD t undef)) → RelDs I w ads ds → ALeaves P fn N e R ads u A →
    Leaves P fn tmps (fun en w' => ∃ I' ae A', Ext I0 w0 I' w' ∧ Inv I' (A' ++ F) w' ∧ RelE I' w' ae en ∧ R ae A') ds u w := by
  intro ads
  induction ads with
  | nil =>
    intro u A ds I w tmps E hI hs ht hd h
    cases hd
    cases u with
    | run => exact h.elim
    | returning =>
      obtain ⟨av, A', hr, hsub, hR⟩ := h;obtain ⟨v, hrun, hv⟩ := hr F I w tmps hI hs ht;exact ⟨v, hrun, I, .ret av, A', E, hsub.inv hI, hv, hR⟩
    | panicking c =>
      obtain ⟨A', hsub, hR⟩ := h;exact ⟨I, .pan c, A', E, hsub.inv hI, rfl, hR⟩
  | cons ad ads ih =>
    intro u A ds I w tmps E hI hs ht hd h
    cases hd with
    | cons hd hds =>
      rename_i d ds
      cases ad with
      | mark o => exact h.elim
      | call f cap args =>
        obtain ⟨hu, g, A1, B, rfl, hf, hp, hc⟩ := h
        cases hd with
        | call f cap args xs ys hx hy =>
          have hI2 : Inv I (A1 ++ (B ++ F)) w := by rw [← List.append_assoc]; exact hI.perm (hp.append_right F)
          refine ⟨hu, .func g, xs.toArray, g, (ys ++ xs).toArray, rfl, ?_, ?_⟩
          · simp only [invoke]
            rw [show ys.toArray ++ xs.toArray = (ys ++ xs).toArray by simp]
            exact hf _ _
          · intro c cs hcm
            obtain ⟨en, u', w', fr, hq, h1, h2, h3⟩ := hc (B ++ F) I w _ hI2 (hy.append hx) c cs hcm;refine ⟨en, u', w', fr, ?_, h1, h2, h3⟩;obtain ⟨I', ae, A', E', hI', hre, hR⟩ := hq
            have hI3 : Inv I' ((A' ++ B) ++ F) w' := by rw [List.append_assoc]; exact hI'
            cases en with
            | returned v =>
              cases ae with
              | ret av => exact ih _ _ _ I' w' tmps (E.trans E') hI3 hs (fun t => (ht t).mono E') (hds.mono E') hR
              | pan c => exact hre.elim
            | panicked c =>
              cases ae with
              | ret av => exact hre.elim
              | pan c' => cases hre; exact ih _ _ _ I' w' tmps (E.trans E') hI3 hs (fun t => (ht t).mono E') (hds.mono E') hR
            | outgrown => cases ae <;> exact hre.elim
def RetPostD (P : Program) (fn : Func) (N : Nat) (K : List Nat) (R : AE → List Chunk → Prop) : ff
  | .normal, s | .ret, s => ALeaves P fn N s.env R s.ds .returning s.A
  | .panic c, s => ∃ e0 : Env, (∀ p ∈ e0, p.1 ∈ K) ∧ Env.le s.env e0 ∧ ALeaves P fn N e0 R s.ds (.panicking c) s.A
  | _, _ => False
theorem RetPostD.free {K : List Nat} {d : Nat} (hd : K.contains d = false) {c : List PanicEntry} {s : St} (h : RetPostD P fn N K R (.panic c) s) : RetPostD P fn N K R (.panic c) ⟨(d, .any) :: s.env, s.ds, s.A⟩ := by
  obtain ⟨e0, h1, h2, h3⟩ := h;refine ⟨e0, h1, fun p hp => ?_, h3⟩
  have hne : d ≠ p.1 := fun e => by
    have := h1 p hp
    rw [← e] at this
    simp at hd
    exact hd this
  have hb : Nat.beq d p.1 = false := by
    cases hb : Nat.beq d p.1 with
    | false => rfl
    | true => exact absurd (Nat.eq_of_beq_eq_true hb) hne
  simp only [ev, hb]
  exact h2 p hp
end
theorem qk {args : List AV} {vs : List Value} {fn : Func} {I : Info} {w : World} {A : List Chunk} (hv : RelL I w args vs) (hl' : args.length ≤ fn.ntmps) :
    RelS fn.ntmps I w ⟨lD 0 args, [], A⟩ { tmps := vs.toArray ++ Array.replicate (fn.ntmps - vs.toArray.size) undef, defers := [] } := by
  refine ⟨?_, fun t => ?_, .nil⟩
  · simp [hv.1]; omega
  · show Rel I w (ev (lD 0 args) t) _
    rw [tM]
    simp only [Nat.zero_le, if_true, Nat.sub_zero]
    by_cases ht : t < args.length
    · have := hv.2 t ht
      have hx : t < vs.length := by rw [hv.1]; exact ht
      rw [show args.getD t .any = args[t] by simp [List.getD, ht]]
      have e1 : (vs.toArray ++ Array.replicate (fn.ntmps - vs.toArray.size) undef).getD t undef = vs.getD t undef := by
        rw [Array.getD_eq_getD_getElem?, Array.getElem?_append_left (by simpa using hx)]
        simp [List.getD]
      rw [e1]; exact this
    · rw [show args.getD t .any = .any by simp [List.getD, List.getElem?_eq_none (Nat.le_of_not_lt ht)]]
      exact .any _
theorem mZ {P : Program} {f : FuncId} {fn : Func} {c : Code} {args : List AV} {A : List Chunk} {R : AE → List Chunk → Prop} (K : List Nat) (hf : P.funcs[f]? = some fn) (hb : fn.body = some c) (hl : Nat.ble args.length fn.ntmps = true)
    (h : AW P none fn.ntmps c (RetPostD P fn fn.ntmps K R) ⟨lD 0 args, [], A⟩) : ACalls P f args A R := fun F I w vs hI hv => by
  refine calls_of_wp_defers hf hb ((wpIn_wide (n := 0)).1 (wpIn_mono (h F I w _ hI (qk hv (ac hl))) fun e a w' hq => ?_));obtain ⟨I', s', E, hI', hS', hq⟩ := hq
  cases e with
  | normal => exact ALeaves.sound s'.ds .returning s'.A a.defers I' w' a.tmps E hI' hS'.size hS'.env hS'.ds hq
  | ret => exact ALeaves.sound s'.ds .returning s'.A a.defers I' w' a.tmps E hI' hS'.size hS'.env hS'.ds hq
  | panic c =>
    obtain ⟨e0, _, hle, hq⟩ := hq;exact ALeaves.sound s'.ds (.panicking c) s'.A a.defers I' w' a.tmps E hI' hS'.size (fun t => (hle.ev t).rel (hS'.env t)) hS'.ds hq
  | exit id => exact hq.elim
  | goto l => exact hq.elim
  | outgrown => exact hq.elim
theorem ResT.oneW {P : Program} {fn : Func} {N t : Nat} {e : Env} {A : List Chunk} {av : AV} (hr : fn.results = #[.tmp t]) (h : Wv (ev e t) av) : ResT P fn N e A av := fun F I w tmps hI hs ht =>
  ⟨tmps.getD t undef, by simp [results, hr], h.rel (ht t)⟩
theorem ResT.none {P : Program} {fn : Func} {N : Nat} {e : Env} {A : List Chunk} (hr : fn.results = #[]) : ResT P fn N e A (.tup []) := fun F I w tmps hI hs ht =>
  ⟨.tuple #[], by simp [results, hr], .tup [] [] rfl fun j h => absurd h (Nat.not_lt_zero _)⟩
theorem xe {P : Program} {o : Oper} {a : Act} {K K' : Act → World → Prop} {Q Q' : Exit → Act → World → Prop} {r : Result Next} (h : ∀ a w, K a w → K' a w) (hq : ∀ e a w, Q e a w → Q' e a w) (hh : o.upon P a K Q r) : o.upon P a K' Q' r := by
  cases r with
  | ok n w' =>
    cases n <;> simp only [Oper.upon] at hh ⊢ <;> first
      | exact h _ _ hh
      | exact hh.mono fun e w'' he => by cases e <;> first | exact h _ _ he | exact hq _ _ _ he | exact he.imp fun _ ⟨w, hx⟩ => ⟨w, hq _ _ _ hx⟩
      | exact hh.mono fun v w'' he => h _ _ he
      | exact hh
  | halt x w' => cases x <;> simp only [Oper.upon] at hh ⊢ <;> first | exact hq _ _ _ hh | exact hh
theorem qq {P : Program} {ops : Array Oper} {R R' : Exit → Act → List Frame → World → Prop} (l : List Nat) (h : ∀ e a cs w, R e a cs w → R' e a cs w) :
    ∀ a cs w, wpOpsS P ops R l a cs w → wpOpsS P ops R' l a cs w := by
  induction l with
  | nil => exact fun a cs w hh => h _ _ _ _ hh
  | cons i rest ih =>
    intro a cs w hh
    simp only [wpOpsS] at hh ⊢
    cases ho : ops[i]? with
    | none => simp only [ho] at hh ⊢; exact ih a cs w hh
    | some o =>
      simp only [ho] at hh ⊢
      by_cases hw : Region.wanted o (yielded ops a.tmps) = true
      · simp only [hw, if_true] at hh ⊢
        generalize (execOp a.eval o).run P w = r at hh ⊢
        split at hh
        · split at hh
          · exact ih _ _ _ hh
          · exact ih _ _ _ hh
        · rename_i r' hnr
          exact xe (fun a w => ih a cs w) (fun e a w => h e a cs w) hh
      · simp only [hw, if_false, Bool.false_eq_true] at hh ⊢
        exact ih _ _ _ hh
def ASR (P : Program) (N : Nat) (ops : Array Oper) (cs : List Frame) (Q : ff) (l : List Nat) (s : St) : Prop :=
  ∀ F I w a, Inv I (s.A ++ F) w → RelS N I w s a → wpOpsS P ops (fun e a' cs' w' => cs' = cs ∧ CQ N F I w Q e a' w') l a cs w
theorem ASR.nil {P : Program} {N : Nat} {ops : Array Oper} {cs : List Frame} {Q : ff} {s : St} (h : Q .normal s) : ASR P N ops cs Q [] s := fun F I w a hI hS =>
  ⟨rfl, I, s, bO _ _, hI, hS, h⟩
theorem ASR.op {P : Program} {N : Nat} {ops : Array Oper} {cs : List Frame} {Q : ff} {i : Nat} {rest : List Nat} {d : Nat} {op : Op} {T : TypeId} {pos : String} {after : Array Edge} {e : Env} {ds : List ADef} {A A' : List Chunk} {av : AV}
    (ho : ops[i]? = some ⟨some d, op, T, pos, after, none⟩) (hd : Nat.blt d N = true) (h : OpR P ⟨some d, op, T, pos, after, none⟩ e A av A') (k : ASR P N ops cs Q rest ⟨(d, av) :: e, ds, A'⟩) :
    ASR P N ops cs Q (i :: rest) ⟨e, ds, A⟩ := fun F I w a hI hS => by
  obtain ⟨n, v, w', I', hrun, hnv, E, hI', hv⟩ := h F I w a.eval hI hS.op
  have hk := k F I' w' (a.put (some d) v) hI' ((hS.mono E).put (ac hd) hv A')
  have hk' := qq (R' := fun e a' cs' w' => cs' = cs ∧ CQ N F I w Q e a' w') rest (fun e a' cs' w' ⟨h1, h2⟩ => ⟨h1, dy E (fun _ _ h => h) h2⟩) _ _ _ hk
  simp only [wpOpsS, ho, Region.wanted, if_true, hrun]
  rcases hnv with rfl | ⟨rfl, rfl⟩ <;> exact hk'
end Go.Av
namespace Go.Av
open Go.RowKit
section
variable {P : Program} {ro : Option Nat} {N : Nat} {Q : ff} {ops : Array Oper}
theorem xJ {I : Info} {w : World} {f : Fn} {as_ bs : List AV} {v : Value} (h : Rel I w (.fn f as_ bs) v) : ∃ xs ys : List Value, v = .func f xs.toArray ys.toArray ∧ RelL I w as_ xs ∧ RelL I w bs ys := by
  cases h with
  | fn _ _ _ xs ys hl hr hl' hr' => exact ⟨xs, ys, rfl, ⟨hl, hr⟩, ⟨hl', hr'⟩⟩
def FnV (a : AV) (f : Fn) (as_ bs : List AV) : Prop := a = .fn f as_ bs ∨ (a = .v (.func f #[] #[]) ∧ as_ = [] ∧ bs = [])
theorem rel_fnV {I : Info} {w : World} {a : AV} {f : Fn} {as_ bs : List AV} {v : Value} (h : FnV a f as_ bs) (hr : Rel I w a v) : ∃ xs ys : List Value, v = .func f xs.toArray ys.toArray ∧ RelL I w as_ xs ∧ RelL I w bs ys := by
  rcases h with rfl | ⟨rfl, rfl, rfl⟩
  · exact xJ hr
  · exact ⟨[], [], ca hr, fp, fp⟩
theorem nF {P : Program} {ρ : Operand → Value} {f : Fn} {xs ys : Array Value} {x : Operand} {args : Array Operand} {argTypes : Array TypeId} {T : TypeId} {w : World} (h : ρ x = .func f xs ys) :
    (resolve ρ ⟨.value x, args, argTypes⟩ T).run P w = .ok { target := .fn f ys, args := xs ++ args.map ρ } w := by
  simp only [resolve, h, Deferred.ofValue, Sem.run_pure]
theorem AO.callF {rest : List Nat} {d : Nat} {x : Operand} {f : FuncId} {fs cs : List AV} {args : Array Operand} {argTypes : Array TypeId} {T : TypeId} {pos : String} {after : Array Edge} {g : Option (Nat × Bool)} {e : Env} {ds : List ADef} {A A1 : List Chunk} (B : List Chunk)
    {R : AE → List Chunk → Prop} {avs : List AV} (hd : Nat.blt d N = true) (hx : FnV (opv e x) (.func f) fs cs) (hf : ∀ args w, (callFunc f args).run P w = .ok (.enter f args) w) (ha : fs ++ args.toList.map (opv e) ++ cs = avs)
    (h : ACalls P f avs A1 R) (p : A.Perm (A1 ++ B)) (k : ∀ av A', R (.ret av) A' → AR P ro N ops Q rest ⟨(d, av) :: e, ds, A' ++ B⟩)
    (kp : ∀ c A', R (.pan c) A' → Q (.panic c) ⟨e, ds, A' ++ B⟩) :
    AO P ro N ops Q rest ⟨some d, .call ⟨.value x, args, argTypes⟩, T, pos, after, g⟩ ⟨e, ds, A⟩ := fun F I w a hI hS => by
  have hS' := hS
  obtain ⟨xs, ys, hv, hxs, hys⟩ := rel_fnV hx (hS'.op x)
  have hrl : RelL I w avs (xs ++ args.toList.map a.eval ++ ys) := by
    rw [← ha]; exact (hxs.append (fq _ _ _ fun x _ => hS'.op x)).append hys
  refine ⟨fun _ _ => cR _, ?_⟩
  have he : (xs.toArray ++ args.map a.eval) ++ ys.toArray = (xs ++ args.toList.map a.eval ++ ys).toArray := by apply Array.ext'; simp
  have hex : (Oper.semAt (cW ro).round a.eval ⟨some d, .call ⟨.value x, args, argTypes⟩, T, pos, after, g⟩).run P w = .ok (.enter f (xs ++ args.toList.map a.eval ++ ys).toArray) w := by
    rw [Oper.semAt_eq _ _ _ (fun c h => by cases h)]
    simp only [execOp, Sem.run_bind, nF hv, Result.andThen_ok, invoke, he]
    exact hf _ _
  rw [hex]
  refine ⟨np, AO.call.callsIn_wide'.2 ?_⟩
  have hI2 : Inv I (A1 ++ (B ++ F)) w := by rw [← List.append_assoc]; exact hI.perm (p.append_right F)
  refine (h (B ++ F) I w _ hI2 hrl).mono fun en w' ⟨I', ae, A', E, hI', hre, hR⟩ => ?_
  have hI3 : Inv I' ((A' ++ B) ++ F) w' := by rw [List.append_assoc]; exact hI'
  cases en with
  | returned v =>
    cases ae with
    | ret av =>
      have hk := k av A' hR F I' w' (a.put (some d) v) hI3 ((hS.mono E).put (ac hd) hre _)
      exact cE rest (fun _ _ _ => dy E fun _ _ h => h) _ _ hk
    | pan c => exact hre.elim
  | panicked c =>
    cases ae with
    | ret av => exact hre.elim
    | pan c' =>
      cases hre
      exact ⟨I', ⟨e, ds, A' ++ B⟩, E, hI3, ⟨hS.size, (hS.mono E).env, (hS.mono E).ds⟩, kp _ A' hR⟩
  | outgrown => cases ae <;> exact hre.elim
theorem AO.callFp {rest : List Nat} {d : Nat} {x : Operand} {f : FuncId} {fs cs : List AV} {args : Array Operand} {argTypes : Array TypeId} {T : TypeId} {pos : String} {after : Array Edge} {g : Option (Nat × Bool)} {e : Env} {ds : List ADef} {A : List Chunk}
    {avs : List AV} {v : AV} (hd : Nat.blt d N = true) (hx : FnV (opv e x) (.func f) fs cs) (hf : ∀ args w, (callFunc f args).run P w = .ok (.enter f args) w) (ha : fs ++ args.toList.map (opv e) ++ cs = avs)
    (h : ACalls P f avs [] (Ret v [])) (k : AR P ro N ops Q rest ⟨(d, v) :: e, ds, A⟩) :
    AO P ro N ops Q rest ⟨some d, .call ⟨.value x, args, argTypes⟩, T, pos, after, g⟩ ⟨e, ds, A⟩ :=
  AO.callF A hd hx hf ha h (bu _) (fun av A' ⟨h1, h2⟩ => by cases h1; subst h2; exact k) (fun c A' ⟨h1, _⟩ => by cases h1)
theorem AO.callFAt {rest : List Nat} {d : Nat} {x : Operand} {f : FuncId} {fs cs : List AV} {args : Array Operand} {argTypes : Array TypeId} {T : TypeId} {pos : String} {after : Array Edge} {g : Option (Nat × Bool)} {e : Env} {ds : List ADef} {A A1 B : List Chunk}
    {R : AE → List Chunk → Prop} {avs : List AV} (is : List Nat) (hd : Nat.blt d N = true) (hx : FnV (opv e x) (.func f) fs cs) (hf : ∀ args w, (callFunc f args).run P w = .ok (.enter f args) w) (ha : fs ++ args.toList.map (opv e) ++ cs = avs)
    (h : ACalls P f avs A1 R) (p : lO A is = some (A1, B)) (hr : ∀ c A', ¬ R (.pan c) A') (k : ∀ av A', R (.ret av) A' → AR P ro N ops Q rest ⟨(d, av) :: e, ds, A' ++ B⟩) :
    AO P ro N ops Q rest ⟨some d, .call ⟨.value x, args, argTypes⟩, T, pos, after, g⟩ ⟨e, ds, A⟩ :=
  AO.callF B hd hx hf ha h (dS is _ _ _ p) k (fun c A' h => (hr c A' h).elim)
abbrev _root_.Go.Av.fu := @AO.callFAt
theorem AO.defer {rest : List Nat} {x : Operand} {f : Fn} {fs cs : List AV} {args : Array Operand} {argTypes : Array TypeId} {T : TypeId} {pos : String} {after : Array Edge} {g : Option (Nat × Bool)} {e : Env} {ds : List ADef} {A : List Chunk}
    (hx : opv e x = .fn f fs cs) (k : AR P none N ops Q rest ⟨e, .call f cs (fs ++ args.toList.map (opv e)) :: ds, A⟩) :
    AO P none N ops Q rest ⟨none, .defer ⟨.value x, args, argTypes⟩, T, pos, after, g⟩ ⟨e, ds, A⟩ := fun F I w a hI hS => by
  have hS' := hS
  obtain ⟨xs, ys, hv, hxs, hys⟩ := xJ (hx ▸ hS'.op x);refine ⟨fun _ _ => cR _, ?_⟩
  have hex : (Oper.semAt (cW none).round a.eval ⟨none, .defer ⟨.value x, args, argTypes⟩, T, pos, after, g⟩).run P w = .ok (.defer { target := .fn f ys.toArray, args := (xs ++ args.toList.map a.eval).toArray }) w := by
    rw [show (cW none).round = none from rfl, Oper.semAt_none]
    simp only [execOp, Sem.run_bind, nF hv, Result.andThen_ok, Sem.run_pure]
    congr 2
    congr 1
    apply Array.ext'; simp
  rw [hex]
  exact k F I w _ hI ⟨hS.size, hS.env, .cons (.call f cs _ ys _ hys (hxs.append (fq _ _ _ fun x _ => hS'.op x))) hS.ds⟩
mutual
def conc : AV → Option Value
  | .v x => some x
  | .ifc t a => (conc a).map (.iface t)
  | .agg l => (concL l).map fun l => .agg l.toArray
  | _ => none
def concL : List AV → Option (List Value)
  | [] => some []
  | a :: l => match conc a, concL l with
    | some x, some r => some (x :: r)
    | _, _ => none
end
mutual
theorem conc_rel {I : Info} {w : World} : ∀ (a : AV) (x v : Value), conc a = some x → Rel I w a v → v = x
  | .v y, x, v, h, hr => by cases h; cases hr; rfl
  | .ifc t a, x, v, h, hr => by
    simp only [conc, Option.map_eq_some_iff] at h
    obtain ⟨y, hy, rfl⟩ := h
    cases hr with
    | ifc _ _ z hz => rw [conc_rel a y z hy hz]
  | .agg l, x, v, h, hr => by
    simp only [conc, Option.map_eq_some_iff] at h
    obtain ⟨y, hy, rfl⟩ := h
    cases hr with
    | agg _ xs hl hr => rw [concL_rel l y xs hy ⟨hl, hr⟩]
  | .sl .., _, _, h, _ | .cp .., _, _, h, _ | .pt .., _, _, h, _ | .vw .., _, _, h, _ | .tup .., _, _, h, _ | .fn .., _, _, h, _ | .any, _, _, h, _ | .anyk .., _, _, h, _ | .anyi, _, _, h, _ | .mp .., _, _, h, _ | .rp .., _, _, h, _ | .mk .., _, _, h, _ | .yl .., _, _, h, _ => by simp [conc] at h
theorem concL_rel {I : Info} {w : World} : ∀ (l : List AV) (xs vs : List Value), concL l = some xs → RelL I w l vs → vs = xs
  | [], xs, vs, h, hr => by simp only [concL, Option.some.injEq] at h; rw [hr.out_nil, h]
  | a :: l, xs, vs, h, hr => by
    obtain ⟨v, vs', rfl, h1, h2⟩ := hr.out_cons
    simp only [concL] at h
    split at h
    · rename_i x r hx hrr
      cases h
      rw [conc_rel a x v hx h1, concL_rel l r vs' hrr h2]
    · cases h
end
theorem AO.panic {rest : List Nat} {d : Option Nat} {x : Operand} {t : TypeId} {v : Value} {T : TypeId} {pos : String} {after : Array Edge} {g : Option (Nat × Bool)} {e : Env} {ds : List ADef} {A : List Chunk}
    (hx : conc (opv e x) = some (.iface t v)) (k : Q (.panic [{ v := .iface t v, recovered := false }]) ⟨e, ds, A⟩) :
    AO P ro N ops Q rest ⟨d, .panic x, T, pos, after, g⟩ ⟨e, ds, A⟩ := fun F I w a hI hS => by
  have hv := conc_rel _ _ _ hx (hS.op x)
  refine ⟨fun _ _ => cR _, ?_⟩
  have hex : (Oper.semAt (cW ro).round a.eval ⟨d, .panic x, T, pos, after, g⟩).run P w = .halt (.panic (.iface t v)) w := by
    rw [Oper.semAt_eq _ _ _ (fun c h => by cases h)]
    simp only [execOp, hv, Instr.panic, Sem.run_bind]
    rfl
  rw [hex]
  exact ⟨I, ⟨e, ds, A⟩, bO _ _, hI, hS, k⟩
end
end Go.Av
namespace Go.Av
open Go.RowKit
def Info.start (w : World) : Info := ⟨fun b => if b < w.heap.size then none else some 0, fun _ => none, fun _ => none⟩
theorem Inv.start (w : World) (hg : ∀ g cs, G g = some cs → Rel (Info.start w) w (gv cs) (.pointer (some ⟨g, 0, none⟩))) : Inv (Info.start w) [] w where
  holds := fun c h => by cases h
  nodup := by simp
  fresh := fun b h => by simp only [Info.start]; rw [if_neg (by omega)]
  ids := ⟨0, fun _ _ => ⟨rfl, rfl⟩⟩
  glob := hg
theorem xf {w : World} {b n : Nat} (h : b < w.heap.size) : Stab (Info.start w) b n := fun m hm => by
  simp only [Info.start] at hm
  rw [if_pos h] at hm; cases hm
theorem law_of {P : Program} {f : FuncId} {args : List AV} {vs : List Value} {w : World} (h : ACalls P f args [] (Ret (B true) [])) (hr : RelL (Info.start w) w args vs)
    (hg : ∀ g cs, G g = some cs → Rel (Info.start w) w (gv cs) (.pointer (some ⟨g, 0, none⟩))) :
    Calls P f vs.toArray w fun e w' => e = .returned (.bool true) ∧ Below w.heap.size w w' :=
  (h [] (Info.start w) w vs (Inv.start w hg) hr).mono fun e w' ⟨I', ae, A', E, _, he, h1, _⟩ => by
    subst h1;refine ⟨?_, E.os, E.tape, E.out, E.size, fun k hk => (E.blk k (by simp only [Info.start]; rw [if_pos hk])).1⟩
    cases e with
    | returned v => cases he; rfl
    | panicked c => exact he.elim
    | outgrown => exact he.elim
theorem cell_lt {w : World} {a : Addr} {v : Value} (h : w.cell? a = some v) : a.block < w.heap.size ∧ a.spot = none := by
  unfold World.cell? at h
  split at h
  · rename_i c _ _ hb
    have hlt := (Array.getElem?_eq_some_iff.1 hb).1
    split at h
    · cases h
    · rename_i hs
      cases hsp : a.spot with
      | none => exact ⟨hlt, rfl⟩
      | some k => rw [hsp] at hs; exact absurd rfl hs
  · cases h
theorem rel_string (I : Info) (w : World) (s : ByteArray) : Rel I w (S s.data.toList) (.string s) := by
  have : (⟨s.data.toList.toArray⟩ : ByteArray) = s := by cases s; simp
  show Rel I w (.v (.string ⟨s.data.toList.toArray⟩)) _
  rw [this]; exact .v _
end Go.Av
namespace Go.Av
open Go.RowKit
section
variable {H : Type} {enc : TypeId × Value → H}
theorem returns_and_shaped {a : Assume} {C : Checked} {os : Os} {f : FuncId} {fn : Func} {s : ChangeSpec} {conds : List PathCond} {apart fresh handsOn again : Bool} {X : World → Array Value → Prop}
    (hX : ∀ (w w' : World) (args : Array Value), w.heap = w'.heap → X w args → X w' args)
    (own : ownKnob C.prog.godebug = none) (started : os.Started) (noInit : C.prog.inits.idxOf? f = none) (hfn : C.prog.funcs[f]? = some fn)
    (witness : ∃ (w : World) (tape : Tape) (i : Input), w.os = os ∧ (w.forCall tape i).Shaped C.prog ∧ i.vars = [] ∧ Input.okWide C.prog (w.forCall tape i) .any w.heap.size f i ∧
      ((s.pre enc C.prog fn conds apart (w.forCall tape i).memory i.args ∧ X (w.forCall tape i).memory i.args) ∧ sizedMet enc C.prog fn (OpenSpec.ofChange s) apart (w.forCall tape i).memory i.args) ∧ a.holds C.prog (lone (Frame.enter C.prog f i.args .normal) [] (w.forCall tape i)))
    (contract : ∀ (W : World) (base : Nat) (args : Array Value) (ds gs : List (DataW H)) (before : List MemPlace),
      (∀ (j : Nat) t v, fn.params[j]? = some t → args[j]? = some v → Value.okWide C.prog W .any base t v) →
      DataW.Whole enc C.prog fn.params.toList s.vars apart W args.toList ds gs before →
      W.ShapedOpen C.prog → X W args →
      Calls C.prog f args W fun e W' => ∃ v, e = .returned v ∧ s.post enc C.prog fn apart fresh handsOn again W args v W') :
    ReturnsInHanded a C os f .any (fun w args => (s.pre enc C.prog fn conds apart w args ∧ X w args) ∧ sizedMet enc C.prog fn (OpenSpec.ofChange s) apart w args) (s.post enc C.prog fn apart fresh handsOn again) := by
  refine returnsInHanded_of_calls own started noInit witness ?_;intro w tape i _ hsh _ hok hpre hholds;obtain ⟨_, _, _, fn', hfn', _, _, _, _, hval⟩ := hok
  have e : fn' = fn := ak (hfn'.symm.trans hfn)
  subst e;obtain ⟨⟨⟨ds, gs, before, hw, hc⟩, hx⟩, hz⟩ := hpre
  have hw' := DataW.Whole.of_heap (w' := w.forCall tape i) (by rfl) hw
  refine (contract (w.forCall tape i) w.heap.size i.args ds gs before hval hw' hsh (hX _ _ _ (by rfl) hx)).mono fun e W' ⟨v, he, hp⟩ => ?_
  subst he;exact ChangeSpec.post_blind hp
end
theorem wy {P : Program} {w : World} {n : String} {d : DataW Unit} : ∀ {l : List (String × DataW Unit)} {ps : List MemPlace}, DataW.LaidVars P w l ps → (n, d) ∈ l →
    ∃ g t cs fuel p, P.globalNamed n = some g ∧ (P.globals[g]?).map (·.type) = some t ∧ w.var? P n = some cs ∧ DataW.trod (fun _ => ()) P w 0 (fun _ => true) false fuel t cs.toList = some (d, p)
  | [], _, _, hm => by cases hm
  | (n', d') :: r, ps, h, hm => by
    obtain ⟨g, t, cs, fuel, p, q, h1, h2, h3, h4, h5, _⟩ := h
    rcases List.mem_cons.1 hm with hm | hm
    · cases hm; exact ⟨g, t, cs, fuel, p, h1, h2, h3, h4⟩
    · exact wy h5 hm
theorem sT {H : Type} {tok : TypeId × Value → H} {P : Program} {w : World} {base : Nat} {fits : Nat → Bool} {b : Bool} {fuel t : Nat} {vs : List Value} {r : DataW H × List MemPlace} {ms : Array (String × TypeId)} (hT : P.underlying t = some (.interface ms))
    (h : DataW.trod tok P w base fits b fuel t vs = some r) : vs = [.nilIface] ∨ ∃ u v, vs = [.iface u v] := by
  cases fuel with
  | zero => simp [DataW.trod] at h
  | succ n =>
    unfold DataW.trod at h
    rw [hT] at h
    split at h <;> first | (exact .inl rfl) | (exact .inr ⟨_, _, rfl⟩) | simp_all
theorem laid_iface {P : Program} {w : World} {l : List (String × DataW Unit)} {n : String} {d : DataW Unit} {g t : Nat} {ms : Array (String × TypeId)} (h : laidMet P l w) (hm : (n, d) ∈ l) (hg : P.globalNamed n = some g) (ht : (P.globals[g]?).map (·.type) = some t) (hT : P.underlying t = some (.interface ms)) : ∃ v, w.cell? ⟨g, 0, none⟩ = some v ∧ (v = .nilIface ∨ ∃ u y, v = .iface u y) := by
  obtain ⟨ps, hl, _, _⟩ := h;obtain ⟨g', t', cs, fuel, p, h1, h2, h3, h4⟩ := wy hl hm;obtain rfl := ak (hg.symm.trans h1);obtain rfl := ak (ht.symm.trans h2)
  have hc := World.var?_cell hg h3 0
  rcases sT hT h4 with h5 | ⟨u, v, h5⟩
  · exact ⟨.nilIface, by rw [hc]; have := congrArg (·[0]?) h5; simpa using this, .inl rfl⟩
  · exact ⟨.iface u v, by rw [hc]; have := congrArg (·[0]?) h5; simpa using this, .inr ⟨u, v, rfl⟩⟩
theorem rel_var {w : World} {g : Nat} {v : Value} {c : AV} (h : w.cell? ⟨g, 0, none⟩ = some v) (hr : Rel (Info.start w) w c v) : Rel (Info.start w) w (.cp [c]) (.pointer (some ⟨g, 0, none⟩)) := by
  refine .cp [c] g 0 (fun _ => v) (xf (cell_lt h).1) (fun j hj => ?_) (fun j hj => ?_)
  · have : j = 0 := by simpa using hj
    subst this; exact h
  · have : j = 0 := by simpa using hj
    subst this; exact hr
theorem rel_anyi {I : Info} {w : World} {v : Value} (h : v = .nilIface ∨ ∃ u y, v = .iface u y) : Rel I w .anyi v := by
  rcases h with rfl | ⟨u, y, rfl⟩
  · exact .anyi0
  · exact .anyi1 u y
end Go.Av
namespace Go.Av
open Go.RowKit Go.Pv
def jz {ρ : Type} (ok : ρ → AE → List Chunk → Prop) (ch : Int → List PanicEntry) : Res ρ → AE → List Chunk → Prop
  | .ok r => ok r
  | .pan e => fun ae A' => ae = .pan (ch e) ∧ A' = []
def ce (v : Value) : List PanicEntry := [{ v := v, recovered := false }]
section
variable {P : Program} {ro : Option Nat} {N : Nat} {Q : ff} {ops : Array Oper}
def ALR (P : Program) (ro : Option Nat) (N : Nat) (c : Code) (Q : ff) : Nat → St → Prop
  | 0, _ => False
  | m + 1, s => AW P ro N c (Then (ALR P ro N c Q m) Q) s
theorem ALR.sound {c : Code} {F : List Chunk} {I0 : Info} {w0 : World} : ∀ (m : Nat) (s : St) (I : Info) (w : World) (a : Act), Ext I0 w0 I w → Inv I (s.A ++ F) w → RelS N I w s a → ALR P ro N c Q m s →
    Code.roundsIn (cW ro) 0 P c (CQ N F I0 w0 Q) m a w := by
  intro m
  induction m with
  | zero => intro s I w a _ _ _ h; exact h.elim
  | succ m ih =>
    intro s I w a E hI hS h
    refine wpIn_mono (h F I w a hI hS) fun e a' w' hq => ?_
    obtain ⟨I', s', E', hI', hS', hq⟩ := hq
    cases e with
    | normal => exact ih s' I' w' a' (E.trans E') hI' hS' hq
    | _ => exact ⟨I', s', E.trans E', hI', hS', hq⟩
theorem Au (m : Nat) {c : Code} {s : St} (h : ALR P ro N c Q m s) : AW P ro N (.loop c) Q s := fun F I w a hI hS =>
  wpIn_loop_rounds m (ALR.sound m s I w a (bO _ _) hI hS h)
theorem AO.callPan {rest : List Nat} {d : Nat} {f : FuncId} {args : Array Operand} {argTypes : Array TypeId} {T : TypeId} {pos : String} {after : Array Edge} {g : Option (Nat × Bool)} {e : Env} {ds : List ADef} {A A1 B : List Chunk} {c : List PanicEntry} {avs : List AV} (is : List Nat)
    (hd : Nat.blt d N = true) (hf : ∀ args w, (callFunc f args).run P w = .ok (.enter f args) w) (ha : args.toList.map (opv e) = avs)
    (h : ACalls P f avs A1 (fun ae A' => ae = .pan c ∧ A' = [])) (p : lO A is = some (A1, B)) (k : Q (.panic c) ⟨e, ds, B⟩) :
    AO P ro N ops Q rest ⟨some d, .call ⟨.value (.func f), args, argTypes⟩, T, pos, after, g⟩ ⟨e, ds, A⟩ :=
  AO.call B hd hf ha h (dS is _ _ _ p) (fun av A' ⟨h1, _⟩ => by cases h1) (fun c' A' ⟨h1, h2⟩ => by cases h1; subst h2; exact k)
abbrev _root_.Go.Av.bb := @AO.callPan
theorem AO.panicT {rest : List Nat} {d : Option Nat} {x : Operand} {c : List PanicEntry} {t : TypeId} {v : Value} {T : TypeId} {pos : String} {after : Array Edge} {g : Option (Nat × Bool)} {e : Env} {ds : List ADef} {A : List Chunk}
    (hx : conc (opv e x) = some (.iface t v)) (hc : ce (.iface t v) = c) (k : Q (.panic c) ⟨e, ds, A⟩) :
    AO P ro N ops Q rest ⟨d, .panic x, T, pos, after, g⟩ ⟨e, ds, A⟩ := AO.panic hx (by subst hc; exact k)
mutual
theorem conc_mk {I : Info} {w : World} : ∀ (a : AV) (x : Value), conc a = some x → Rel I w a x
  | .v y, x, h => by cases h; exact .v _
  | .ifc t a, x, h => by
    simp only [conc, Option.map_eq_some_iff] at h
    obtain ⟨y, hy, rfl⟩ := h;exact .ifc _ _ _ (conc_mk a y hy)
  | .agg l, x, h => by
    simp only [conc, Option.map_eq_some_iff] at h
    obtain ⟨y, hy, rfl⟩ := h
    have := concL_mk (I := I) (w := w) l y hy
    exact .agg _ _ this.1 this.2
  | .sl .., _, h | .cp .., _, h | .pt .., _, h | .vw .., _, h | .tup .., _, h | .fn .., _, h | .any, _, h | .anyk .., _, h | .anyi, _, h | .mp .., _, h | .rp .., _, h | .mk .., _, h | .yl .., _, h => by simp [conc] at h
theorem concL_mk {I : Info} {w : World} : ∀ (l : List AV) (xs : List Value), concL l = some xs → RelL I w l xs
  | [], xs, h => by simp only [concL, Option.some.injEq] at h; subst h; exact fp
  | a :: l, xs, h => by
    simp only [concL] at h
    split at h
    · rename_i x r hx hrr
      cases h
      exact dz (conc_mk a x hx) (concL_mk l r hrr)
    · cases h
end
variable {e : Env} {d : Option Nat} {T : TypeId} {pos : String} {after : Array Edge} {g : Option (Nat × Bool)} {x : Operand}
theorem cu {t t0 : TypeId} {a : AV} {D : TypeDesc} (hT : P.underlying t = some D) (hD : (match D with | .interface _ => true | _ => false) = false) (hx : opv e x = .ifc t a) :
    OpS P ⟨d, .typeAssert x t0 t true, T, pos, after, g⟩ e (.tup [a, B true]) := fun I w ρ hρ => by
  have h := hx ▸ hρ x
  generalize e1 : ρ x = v at h
  cases h with
  | ifc _ _ y hy =>
    refine ⟨.tuple #[y, .bool true], .tup _ [y, .bool true] rfl (dz hy (dz (.v _) fp)).2, fun w' _ _ => ?_⟩
    simp only [execOp, e1, Instr.typeAssert, Sem.run_bind, run_underlying hT, Result.andThen_ok]
    cases D <;> first | (cases hD; done) | simp only [if_true, Sem.run_pure, Result.andThen_ok, Sem.run_bind]
def CellV (P : Program) (e : Env) (A : List Chunk) (a t : Nat) (av : AV) : Prop := ∀ F I w v, Inv I (A ++ F) w → Rel I w (ev e a) v → ∃ p x, (asAddr v).run P w = .ok p w ∧ (loadVar t p).run P w = .ok x w ∧ Rel I w av x
theorem CellV.one {e : Env} {A : List Chunk} {a t o off : Nat} (i : Nat) {cs : List AV} {c : AV} {D : TypeDesc} (hT : P.underlying t = some D) (hD : gd D = false) (hx : ev e a = .pt o off) (hA : A[i]? = some (.obj o cs)) (hc : cs[off]? = some c) : CellV P e A a t c := fun F I w v hI hv => by
  rw [hx] at hv
  cases hv with
  | pt o off b ho =>
    obtain ⟨b', arr, ho', he, hca, hrl⟩ := hI.holds _ (kj hA F)
    rw [ho] at ho'; cases ho'
    have hlt : off < cs.length := (List.getElem?_eq_some_iff.1 hc).1
    have hlt' : off < arr.length := by rw [hrl.1]; exact hlt
    have h0 : w.cell? ⟨b, off, none⟩ = some (arr.getD off undef) := by rw [hca.cell]; simp [List.getD, hlt']
    have hr := hrl.2 off hlt
    rw [(List.getElem?_eq_some_iff.1 hc).2] at hr
    refine ⟨⟨b, off, none⟩, _, rfl, ?_, hr⟩
    simp only [loadVar, Sem.run_bind, gq hT hD, Result.andThen_ok, Bool.false_eq_true, if_false, run_load, h0]
abbrev _root_.Go.Av.bn := @CellV.one
theorem CellV.agg {e : Env} {A : List Chunk} {a t o off n : Nat} (i : Nat) {cs : List AV} {D : TypeDesc} (hT : P.underlying t = some D) (hD : gd D = true) (hsz : bC P t = some n) (hx : ev e a = .pt o off) (hA : A[i]? = some (.obj o cs)) (hn : off + n ≤ cs.length) : CellV P e A a t (.agg ((cs.drop off).take n)) := fun F I w v hI hv => by
  rw [hx] at hv
  cases hv with
  | pt o off b ho =>
    obtain ⟨b', arr, ho', he, hca, hrl⟩ := hI.holds _ (kj hA F)
    rw [ho] at ho'; cases ho'
    have hl : (loadCells ⟨b, off, none⟩ n).run P w = .ok ((List.range n).map fun j => arr.getD (off + j) undef).toArray w := run_loadCells w _ n _ (fun j hj => by
      rw [cS, hca.cell, aI (by rw [hrl.1]; omega)]
      simp [List.getD, show off + j < arr.length by rw [hrl.1]; omega])
    refine ⟨⟨b, off, none⟩, _, rfl, ?_, .agg _ ((List.range n).map fun j => arr.getD (off + j) undef) (by simp; omega) (fun j hj => ?_)⟩
    · simp only [loadVar, gq hT hD, if_true, bz hsz, hl, Sem.run_bind, Sem.run_pure, Result.andThen_ok]
    · have hj' : j < n := by simp at hj; omega
      have h1 := hrl.2 (off + j) (by omega)
      simp only [List.getElem_take, List.getElem_drop, List.getD, List.getElem?_map, List.getElem?_range hj', Option.map_some, Option.getD_some]
      simpa [List.getD] using h1
theorem dh {fn : Func} {e : Env} {ds : List ADef} {A : List Chunk} {av : AV} (h : ResT P fn N e A av) : ResV P fn N ⟨e, ds, A⟩ av := fun F I w a hI hS => h F I w a.tmps hI hS.size hS.env
theorem cx {fn : Func} {e : Env} {R : AE → List Chunk → Prop} {g : FuncId} {cap args : List AV} {ds : List ADef} {u u1 : FrameMode} {A A1 B A2 : List Chunk} {v : AV} (is : List Nat) (hu : u ≠ .run) (hf : ∀ as_ w, (callFunc g as_).run P w = .ok (.enter g as_) w)
    (p : lO A is = some (A1, B)) (h : ADCalls P g (args ++ cap) A1 u fun ae u' A' => ae = .ret v ∧ u' = u1 ∧ A' = A2) (k : ALeaves P fn N e R ds (settle u1) (A2 ++ B)) :
    ALeaves P fn N e R (.call (.func g) cap args :: ds) u A := by
  refine ⟨hu, g, A1, B, rfl, hf, dS is _ _ _ p, fun F I w vs hI hv => ?_⟩;intro c cs hc;obtain ⟨en, u', w', fr, hq, h1, h2, h3⟩ := h F I w vs hI hv c cs hc;refine ⟨en, u', w', fr, ?_, h1, h2, h3⟩;obtain ⟨I', ae, A', E, hI', hre, rfl, rfl, rfl⟩ := hq;exact ⟨I', _, _, E, hI', hre, k⟩
def Recovers (u : FrameMode) (v : Value) (u' : FrameMode) : Prop := (∃ older, u = .panicking ({ v := v, recovered := false } :: older) ∧ u' = .panicking ({ v := v, recovered := true } :: older)) ∨ (u = .returning ∧ v = .nilIface ∧ u' = .returning)
theorem Recovers.pan {v : Value} : Recovers (.panicking (ce v)) v (.panicking [{ v := v, recovered := true }]) := .inl ⟨[], rfl, rfl⟩
abbrev _root_.Go.Av.cZ := @Recovers.pan
theorem Recovers.ret : Recovers .returning .nilIface .returning := .inr ⟨rfl, rfl, rfl⟩
theorem bH {f : FuncId} {fn : Func} {id : Nat} {rest : Code} {args : List AV} {A : List Chunk} {u u' : FrameMode} {R : AE → FrameMode → List Chunk → Prop} {v : Value} {av : AV} {t : Nat} {T : TypeId} {pos : String} {after : Array Edge} {l : List Nat}
    (hf : P.funcs[f]? = some fn) (hb : fn.body = some (.seq (.region id ops false) rest)) (hl : Nat.ble args.length fn.ntmps = true) (hr : List.range ops.size = 0 :: l) (ho : ops[0]? = some ⟨some t, .call ⟨.builtin .recover, #[], #[]⟩, T, pos, after, none⟩)
    (ht : Nat.blt t fn.ntmps = true) (hu : Recovers u v u') (hv : conc av = some v)
    (h : ∀ cs, ASR P fn.ntmps ops cs (Then (AW P none fn.ntmps rest (cM P fn fn.ntmps fun ae A' => R ae u' A')) (cM P fn fn.ntmps fun ae A' => R ae u' A')) l ⟨(t, av) :: lD 0 args, [], A⟩) : ADCalls P f args A u R := fun F I w vs hI hvs => by
  refine callsD_of_wpS hf hb fun c₀ cs hu0 => ?_
  refine wpS_seq (wpS_region ?_)
  rw [hr]
  have hrel := qk (A := A) hvs (ac hl)
  have hS : RelS fn.ntmps I w ⟨(t, av) :: lD 0 args, [], A⟩ (({ tmps := vs.toArray ++ Array.replicate (fn.ntmps - vs.toArray.size) undef, defers := [] } : Act).put (some t) v) :=
    hrel.put (ac ht) (conc_mk av v hv) A
  have key := h ({ c₀ with mode := u' } :: cs) F I w _ hI hS
  have fin : ∀ e a cs' w', cs' = ({ c₀ with mode := u' } : Frame) :: cs ∧ CQ fn.ntmps F I w (cM P fn fn.ntmps fun ae A' => R ae u' A') e a w' →
      bodyPostS P fn c₀ cs (fun e u' w' => ∃ I' ae A', Ext I w I' w' ∧ Inv I' (A' ++ F) w' ∧ RelE I' w' ae e ∧ R ae u' A') e a cs' w' := by
    rintro e a cs' w' ⟨rfl, I', s', E, hI', hS', hq⟩
    cases e with
    | normal =>
      obtain ⟨hds, av, A', hres, hsub, hR⟩ := hq;obtain ⟨v, hrun, hv⟩ := hres F I' w' a hI' hS';exact ⟨fa (hds ▸ hS'.ds), u', rfl, v, hrun, I', .ret av, A', E, hsub.inv hI', hv, hR⟩
    | ret =>
      obtain ⟨hds, av, A', hres, hsub, hR⟩ := hq;obtain ⟨v, hrun, hv⟩ := hres F I' w' a hI' hS';exact ⟨fa (hds ▸ hS'.ds), u', rfl, v, hrun, I', .ret av, A', E, hsub.inv hI', hv, hR⟩
    | panic c =>
      obtain ⟨hds, A', hsub, hR⟩ := hq;exact ⟨fa (hds ▸ hS'.ds), u', rfl, I', .pan c, A', E, hsub.inv hI', rfl, hR⟩
    | exit id => exact hq.elim
    | goto l => exact hq.elim
    | outgrown => exact hq.elim
  have next : ∀ e a cs' w', cs' = ({ c₀ with mode := u' } : Frame) :: cs ∧ CQ fn.ntmps F I w (Then (AW P none fn.ntmps rest (cM P fn fn.ntmps fun ae A' => R ae u' A')) (cM P fn fn.ntmps fun ae A' => R ae u' A')) e a w' →
      Exit.thenS (rest.wpS P (bodyPostS P fn c₀ cs (fun e u' w' => ∃ I' ae A', Ext I w I' w' ∧ Inv I' (A' ++ F) w' ∧ RelE I' w' ae e ∧ R ae u' A'))) (bodyPostS P fn c₀ cs (fun e u' w' => ∃ I' ae A', Ext I w I' w' ∧ Inv I' (A' ++ F) w' ∧ RelE I' w' ae e ∧ R ae u' A')) e a cs' w' := by
    rintro e a cs' w' ⟨rfl, I', s', E, hI', hS', hq⟩
    cases e with
    | normal =>
      refine wpS_of_wp ((wpIn_wide (n := 0)).1 (wpIn_mono (hq F I' w' a hI' hS') fun e a w' hq => ?_));exact fin e a _ w' ⟨rfl, dy E (fun _ _ h => h) hq⟩
    | ret => exact fin .ret a _ w' ⟨rfl, I', s', E, hI', hS', hq⟩
    | panic c => exact fin (.panic c) a _ w' ⟨rfl, I', s', E, hI', hS', hq⟩
    | exit id => exact hq.elim
    | goto l => exact hq.elim
    | outgrown => exact hq.elim
  have key2 := qq l next _ _ _ key
  simp only [wpOpsS, ho, Region.wanted, if_true]
  have hrun : ∀ ρ : Operand → Value, (execOp ρ ⟨some t, .call ⟨.builtin .recover, #[], #[]⟩, T, pos, after, none⟩).run P w = .ok .recover w := fun ρ => rfl
  rw [hrun]
  rcases hu with ⟨older, rfl, rfl⟩ | ⟨rfl, rfl, rfl⟩
  · simp only [recoverD, hu0]
    exact key2
  · have hc : ({ c₀ with mode := .returning } : Frame) = c₀ := by rw [← hu0]
    rw [hc] at key2
    simp only [recoverD, hu0]
    exact key2
end
end Go.Av
namespace Go.Av
open Go.RowKit Go.Pv
section
variable {α : Type} {E : Enc α}
theorem fl_get (hk : E.k = 1) : ∀ (l : List α) (m : Nat) (h : m < l.length), (E.fl l)[m]? = (E.f l[m])[0]?
  | [], m, h => by simp at h
  | x :: l, 0, h => by
    rw [eU]
    have := E.len x
    rw [List.getElem?_append_left (by omega)]; rfl
  | x :: l, m + 1, h => by
    rw [eU]
    have := E.len x
    rw [List.getElem?_append_right (by omega), show m + 1 - (E.f x).length = m by omega, fl_get hk l m (by simpa using h)]
    rfl
end
section
variable {P : Program} {e : Env} {d : Option Nat} {T T2 : TypeId} {pos : String} {after : Array Edge} {g : Option (Nat × Bool)} {x y z : Operand} {av : AV} {A : List Chunk}
theorem fP {f : Fn} {first captured : Array Operand} {as_ bs : List AV} (h1 : first.toList.map (opv e) = as_) (h2 : captured.toList.map (opv e) = bs) : OpS P ⟨d, .makeFunc f first captured, T2, pos, after, g⟩ e (.fn f as_ bs) := fun I w ρ hρ => by
  have r1 : RelL I w as_ (first.toList.map ρ) := by rw [← h1]; exact fq _ _ _ fun x _ => hρ x
  have r2 : RelL I w bs (captured.toList.map ρ) := by rw [← h2]; exact fq _ _ _ fun x _ => hρ x
  refine ⟨.func f (first.map ρ) (captured.map ρ), ?_, fun w' _ _ => rfl⟩
  have := Rel.fn (I := I) (w := w) f as_ bs _ _ r1.1 r1.2 r2.1 r2.2
  rwa [show (first.toList.map ρ).toArray = first.map ρ by apply Array.ext'; simp, show (captured.toList.map ρ).toArray = captured.map ρ by apply Array.ext'; simp] at this
theorem sK {cs : List AV} {c : AV} {len El k : Nat} {q : IntKind} {i : Nat} {D : TypeDesc} (hT : P.underlying T = some (.array len El)) (hE : P.underlying El = some D) (hD : gd D = false) (hsz : bC P El = some 1) (hx : opv e x = .agg cs) (hy : opv e y = .v (.int q (i : Int))) (hi : Nat.blt i len = true) (hc : cs[i]? = some c) :
    OpS P ⟨d, .index T x y, T2, pos, after, g⟩ e c := fun I w ρ hρ => by
  have ey := ca (hy ▸ hρ y)
  have h := hx ▸ hρ x
  generalize e1 : ρ x = v at h
  have hi' : i < len := ac hi
  cases h with
  | agg cs xs hl hr =>
    obtain ⟨hlt, rfl⟩ := List.getElem?_eq_some_iff.1 hc
    have hlt' : i < xs.length := by omega
    refine ⟨xs.getD i undef, hr i hlt, fun w' _ _ => ?_⟩
    simp only [execOp, e1, ey, Instr.index, asIntOf, Sem.run_bind, Sem.run_pure, Result.andThen_ok, run_underlying hT, bz hsz, part, gq hE hD]
    rw [if_pos ⟨by omega, by omega⟩]
    simp [bz hsz, part, gq hE hD, hlt', List.getD]
theorem sL {α : Type} [Inhabited α] {E : Enc α} {l : List α} {len El : Nat} {q : IntKind} {i : Int} {v : α} {c : AV} {D : TypeDesc} (hk : E.k = 1) (hT : P.underlying T = some (.array len El)) (hE : P.underlying El = some D) (hD : gd D = false) (hsz : bC P El = some 1) (hx : opv e x = .agg (E.fl l)) (hy : opv e y = .v (.int q i)) (hll : Nat.beq l.length len = true) (hg : dq i len = true) (he : at_ l i = v) (hc : E.f v = [c]) :
    OpS P ⟨d, .index T x y, T2, pos, after, g⟩ e c := by
  obtain ⟨h1, h2⟩ := so hg
  have hll' := Nat.eq_of_beq_eq_true hll
  have hlt : i.toNat < l.length := by omega
  have e1 : v = l[i.toNat] := by
    have := fN (l := l) hlt
    rw [Int.toNat_of_nonneg h1] at this
    rw [← he, this]
  have hy' : opv e y = .v (.int q ((i.toNat : Nat) : Int)) := by rw [Int.toNat_of_nonneg h1]; exact hy
  refine sK (k := 1) hT hE hD hsz hx hy' (Nat.ble_eq_true_of_le (by omega)) ?_
  rw [fl_get hk l _ hlt, ← e1, hc]; rfl
theorem rT {f g : Nat → Option (Nat × Nat)} : ∀ (parts : List (Nat × Value)) (cells : Array Value), (∀ p ∈ parts, f p.1 = g p.1) → Instr.fill f cells parts = Instr.fill g cells parts
  | [], _, _ => rfl
  | p :: r, cells, h => by
    have h1 := h p (List.mem_cons_self ..)
    have h2 : ∀ c, Instr.fill f c r = Instr.fill g c r := fun c => rT r c fun q hq => h q (List.mem_cons_of_mem _ hq)
    obtain ⟨i, x⟩ := p
    simp only [Instr.fill, h1, h2]
theorem xt {parts : Array (Nat × Operand)} {zs : List Value} {cs : List AV} {len El k : Nat} (hT : P.underlying T = some (.array len El)) (hsz : bC P El = some k) (hz : zeroCells P T = some zs) (hb : (parts.toList.all fun p => Nat.blt p.1 len) = true)
    (hok : rq e parts.toList = true) (hf : rg ((List.range len).map fun i => (i * k, k)) (zs.map .v) (parts.toList.map fun p => (p.1, opv e p.2)) = some cs) : OpS P ⟨d, .build T parts, T2, pos, after, g⟩ e (.agg cs) := fun I w ρ hρ => by
  have hok' : ∀ p ∈ parts.toList, bA (opv e p.2) = true ∨ ∃ cs, opv e p.2 = .agg cs := fun p hp => by
    have h := List.all_eq_true.1 hok p hp
    cases hc : bA (opv e p.2) with
    | true => exact .inl rfl
    | false => rw [hc, Bool.false_or] at h; exact .inr (vh h)
  have hb' : ∀ p ∈ parts.toList, p.1 < len := fun p hp => ac (List.all_eq_true.1 hb p hp)
  have hz0 : RelL I w (zs.map .v) zs := kT _
  obtain ⟨ys, hy, hyr⟩ := pJ (I := I) (w := w) ((List.range len).map fun i => (i * k, k)) _ (parts.toList.map fun p => (p.1, ρ p.2)) _ _ cs (by simp) (fun j hj => by
    have hj' : j < parts.toList.length := by simpa using hj
    simp only [List.getElem_map, List.map_map, List.getD, List.getElem?_map, aI hj', Option.map_some, Option.getD_some, Function.comp]
    exact mz (hρ _) (hok' _ (List.getElem_mem hj'))) hz0 hf
  refine ⟨.agg ys.toArray, .agg cs ys hyr.1 hyr.2, fun w' _ _ => ?_⟩;obtain ⟨z, hzrun, hzc⟩ := lR hz w'
  have hpm : (parts.map fun (i, x) => (i, ρ x)).toList = parts.toList.map fun p => (p.1, ρ p.2) := by simp
  have hza : z.cells = zs.toArray := by rw [← hzc]
  have hy2 : Instr.fill (fun i => some (i * k, k)) zs.toArray (parts.toList.map fun p => (p.1, ρ p.2)) = some ys.toArray := by
    rw [← hy]
    refine rT _ _ fun p hp => ?_
    obtain ⟨q, hq, rfl⟩ := List.mem_map.1 hp
    have := hb' q hq
    simp [this]
  simp only [execOp, Instr.build, Sem.run_bind, hzrun, Result.andThen_ok, run_underlying hT, bz hsz, hpm, hza, hy2, Sem.run_pure]
end
end Go.Av
namespace Go.Av
open Go.RowKit Go.Pv
section
variable {P : Program} {e : Env} {d : Option Nat} {T T2 : TypeId} {pos : String} {after : Array Edge} {g : Option (Nat × Bool)} {x y z : Operand} {av : AV} {A : List Chunk}
theorem dQ {a : AV} (hx : opv e x = a) (hc : bA a = true ∨ ∃ cs, a = .agg cs) : OpR P ⟨d, .box T x, T2, pos, after, g⟩ e A (.cp (cellsOf a)) A := fun F I w ρ hI hρ => by
  have hv := hx ▸ hρ x
  have hrl := mz hv hc
  have X := hI.new_still (.cells (ρ x).cells.toList.toArray T)
  refine ⟨_, .pointer (some ⟨w.heap.size, 0, none⟩), _, _, ?_, .inl rfl, X, hI.alloc_still _, ?_⟩
  · simp only [execOp, Instr.box, newVar, newRow, Sem.run_bind, Sem.run_pure, run_newObj_alloc, Result.andThen_ok]
  · refine .cp _ w.heap.size 0 (fun j => (ρ x).cells.toList.getD j undef) (fun m hm => by simp [Info.still] at hm) (fun j hj => ?_) (fun j hj => (hrl.2 j hj).mono X)
    have hj' : j < (ρ x).cells.toList.length := by rw [hrl.1]; exact hj
    have hh := ci w (.cells (ρ x).cells.toList.toArray T)
    simp only [World.cell?, hh, Nat.zero_add]
    have hj2 : j < (ρ x).cells.size := by simpa using hj'
    simp [List.getD, hj2]
theorem Inv.freezeCp {I : Info} {A : List Chunk} {w : World} {o : Nat} {cs : List AV} (h : Inv I (.obj o cs :: A) w) : ∃ I', Ext I w I' w ∧ Inv I' A w ∧ ∀ v, Rel I w (.pt o 0) v → Rel I' w (.cp cs) v := by
  obtain ⟨b, arr, ho, he, hca, hrl⟩ := h.holds _ (List.mem_cons_self ..)
  have hbl : (Chunk.obj o cs).blk I = some b := ho
  have E : Ext I w (I.stillN b cs.length) w := by
    refine ⟨rfl, rfl, rfl, Nat.le_refl _, fun b' hb' => ⟨rfl, ?_⟩, fun _ _ _ => rfl, fun b' m hs => ?_, fun _ _ x => x, fun _ _ x => x, fun _ _ x => x⟩
    · simp only [Info.stillN]
      rw [if_neg]
      · exact hb'
      · rintro rfl; rw [he] at hb'; cases hb'
    · intro q hq
      simp only [Info.stillN] at hq
      by_cases e : b' = b
      · subst e
        have := hs 0 he
        omega
      · rw [if_neg e] at hq; exact hs q hq
  refine ⟨I.stillN b cs.length, E, ?_, ?_⟩
  · have hA : Inv I A w := h.sub (List.sublist_cons_self ..)
    refine hA.keep E (fun c hc b' hb' => ⟨rfl, ?_⟩) (fun b' hb' => ?_) h.ids
    · simp only [Info.stillN]; rw [if_neg (h.other hbl c hc b' hb')]
    · have hlt := hca.lt
      simp only [Info.stillN]; rw [if_neg (by omega)]; exact h.fresh b' hb'
  · intro v hv
    cases hv with
    | pt o off b' ho' =>
      rw [ho] at ho'; cases ho'
      have hlen : arr.length = cs.length := hrl.1
      refine .cp _ b 0 (fun j => arr.getD j undef) ?_ ?_ ?_
      · intro q hq
        simp only [Info.stillN, if_true, Option.some.injEq] at hq
        omega
      · intro j hj
        rw [Nat.zero_add, hca.cell, List.getD, aI (by omega)]; rfl
      · intro j hj
        exact (hrl.2 j hj).mono E
end
section
variable {P : Program} {ro : Option Nat} {N : Nat} {Q : ff} {ops : Array Oper} {rest : List Nat} {e : Env} {ds : List ADef} {A : List Chunk}
theorem AR.freezeCp {o : Nat} {cs : List AV} (t i : Nat) (ht : ev e t = .pt o 0) (hA : A[i]? = some (.obj o cs)) (h : AR P ro N ops Q rest ⟨(t, .cp cs) :: e, ds, A.eraseIdx i⟩) : AR P ro N ops Q rest ⟨e, ds, A⟩ := fun F I w a hI hS => by
  have hp := lZ A i _ hA
  have hI2 : Inv I (.obj o cs :: (A.eraseIdx i ++ F)) w := hI.perm (hp.append_right F)
  obtain ⟨I', X, hI', hrel⟩ := hI2.freezeCp
  have hS' := hS.mono X
  refine cE rest (fun _ _ _ => dy X fun _ _ h => h) _ _ (h F I' w a hI' ⟨hS.size, fun j => ?_, hS'.ds⟩)
  have hj := hS'.env j
  simp only [ev]
  cases hb : Nat.beq t j with
  | false => exact hj
  | true =>
    have := Nat.eq_of_beq_eq_true hb
    subst this
    have hj0 := hS.env t
    simp only [ht] at hj0
    exact hrel _ hj0
abbrev _root_.Go.Av.fQ := @AR.freezeCp
end
section
variable {P : Program} {e : Env} {d : Option Nat} {T T2 : TypeId} {pos : String} {after : Array Edge} {g : Option (Nat × Bool)} {x y z : Operand} {av : AV} {A : List Chunk}
inductive WvL : List AV → List AV → Prop where
  | nil : WvL [] []
  | cons {a b : AV} {l m : List AV} (h : Wv a b) (g : WvL l m) : WvL (a :: l) (b :: m)
theorem WvL.refl : ∀ l, WvL l l
  | [] => .nil
  | a :: l => .cons (.refl a) (WvL.refl l)
theorem WvL.rel {I : Info} {w : World} : ∀ {l m : List AV} {xs : List Value}, WvL l m → RelL I w l xs → RelL I w m xs
  | _, _, _, .nil, h => h
  | _, _, _, .cons h g, hr => by
    obtain ⟨x, xs, rfl, h1, h2⟩ := hr.out_cons;exact dz (h.rel h1) (g.rel h2)
theorem CellV.aggW {a t : Nat} {cs vs : List AV} (h : CellV P e A a t (.agg cs)) (hw : WvL cs vs) : CellV P e A a t (.agg vs) := fun F I w v hI hv => by
  obtain ⟨p, x, h1, h2, h3⟩ := h F I w v hI hv
  cases h3 with
  | agg _ xs hl hr =>
    have := hw.rel ⟨hl, hr⟩
    exact ⟨p, _, h1, h2, .agg _ xs this.1 this.2⟩
theorem CellV.oneW {a t : Nat} {c v : AV} (h : CellV P e A a t c) (hw : Wv c v) : CellV P e A a t v := fun F I w u hI hv => by
  obtain ⟨p, x, h1, h2, h3⟩ := h F I w u hI hv;exact ⟨p, x, h1, h2, hw.rel h3⟩
end
section
variable {P : Program}
def xQ : AV → AV → Option Bool
  | .v (.bool a), .v (.bool b) => some (a == b)
  | .v (.int k a), .v (.int k' b) => if k = k' then some (a == b) else none
  | .v (.string a), .v (.string b) => some (a == b)
  | _, _ => none
def oo : TypeDesc → AV → Bool
  | .bool, .v (.bool _) => true
  | .int _, .v (.int _ _) => true
  | .string, .v (.string _) => true
  | _, _ => false
def sp (P : Program) : List TypeId → List AV → List AV → Option (List Bool)
  | [], [], [] => some []
  | t :: ts, a :: as_, b :: bs => match P.underlying t, xQ a b, sp P ts as_ bs with
    | some D, some r, some rs => if oo D a && oo D b then some (r :: rs) else none
    | _, _, _ => none
  | _, _, _ => none
theorem rD {t : TypeId} {D : TypeDesc} {a b : AV} {x y : Value} {r : Bool} {I : Info} {w : World} {n : Nat} (ht : P.underlying t = some D) (h1 : oo D a = true) (h2 : oo D b = true) (hr : xQ a b = some r) (ha : Rel I w a x) (hb : Rel I w b y) (w' : World) :
    (Op.equalIn (n + 1) t x y).run P w' = .ok r w' := by
  cases D <;> cases a <;> (try (simp [oo] at h1; done)) <;> rename_i u <;> cases u <;> (try (simp [oo] at h1; done)) <;> cases b <;> (try (simp [oo] at h2; done)) <;> rename_i v <;> cases v <;> (try (simp [oo] at h2; done)) <;>
    cases ha <;> cases hb <;> simp only [Op.equalIn, Sem.run_bind, run_underlying ht, Result.andThen_ok] <;> simp only [xQ] at hr
  · cases hr; rfl
  · split at hr
    · rename_i h; subst h; cases hr; simp
    · cases hr
  · cases hr; rfl
def tu (P : Program) (t : TypeId) : Bool := match P.underlying t with
  | some D => !gd D
  | none => false
theorem pr {t : TypeId} {D : TypeDesc} {xs : List Value} {i : Nat} (hT : P.underlying t = some D) (hD : gd D = false) (hi : i < xs.length) (w : World) : (part t xs.toArray i).run P w = .ok (xs.getD i undef) w := by
  simp [part, gq hT hD, hi, List.getD]
theorem qI {I : Info} {w : World} : ∀ (ts : List TypeId) (as_ bs : List AV) (rs : List Bool) (xs ys : List Value), sp P ts as_ bs = some rs → RelL I w as_ xs → RelL I w bs ys →
    rs.length = ts.length ∧ as_.length = ts.length ∧ bs.length = ts.length ∧ ∀ (n : Nat) (w' : World) (i : Nat) (hi : i < ts.length), (Op.equalIn (n + 1) ts[i] (xs.getD i undef) (ys.getD i undef)).run P w' = .ok (rs.getD i true) w'
  | [], [], [], rs, xs, ys, h, _, _ => by cases h; exact ⟨rfl, rfl, rfl, fun _ _ i hi => absurd hi (Nat.not_lt_zero _)⟩
  | t :: ts, a :: as_, b :: bs, rs, xs, ys, h, hx, hy => by
    obtain ⟨x, xs', rfl, hx1, hx2⟩ := hx.out_cons;obtain ⟨y, ys', rfl, hy1, hy2⟩ := hy.out_cons
    simp only [sp] at h
    split at h
    · rename_i D r rs' hD hr hrs
      split at h
      · rename_i hd
        cases h
        simp only [Bool.and_eq_true] at hd
        obtain ⟨h1, h2, h3, h4⟩ := qI ts as_ bs rs' xs' ys' hrs hx2 hy2;refine ⟨by simp [h1], by simp [h2], by simp [h3], fun n w' i hi => ?_⟩
        cases i with
        | zero => exact rD hD hd.1 hd.2 hr hx1 hy1 w'
        | succ i => exact h4 n w' i (by simpa using hi)
      · cases h
    · cases h
  | [], _ :: _, _, _, _, _, h, _, _ | [], [], _ :: _, _, _, _, h, _, _ | _ :: _, [], _, _, _, _, h, _, _ | _ :: _, _ :: _, [], _, _, _, h, _, _ => by simp [sp] at h
end
section
variable {P : Program} {e : Env} {d : Option Nat} {T T2 T' : TypeId} {pos : String} {after : Array Edge} {g : Option (Nat × Bool)} {x y z : Operand}
theorem qJ {op : BinOp} {xs ys : Array Value} (hg : P.eqGuardType P.depth T = false) (w : World) : (eqGuard op T x y (.agg xs) (.agg ys)).run P w = .ok () w := by
  unfold eqGuard
  cases op <;> simp [program, Sem.run, hg]
theorem str_beq (s r : List UInt8) : ((⟨s.toArray⟩ : ByteArray) == ⟨r.toArray⟩) = decide (s = r) := by
  show (s.toArray == r.toArray) = decide (s = r)
  rw [Bool.eq_iff_iff]; simp
theorem dE {op : BinOp} {t : TypeId} {a : AV} {ms : List Method} {D : TypeDesc} (hop : op = .eql ∨ op = .neq) (hT : P.underlying T = some D) (hD : (match D with | .interface _ => true | _ => false) = true) (hx : opv e x = .ifc t a) : OpS P ⟨d, .binOp op T x (.const .nilIface) T', T2, pos, after, g⟩ e (B (if op = .eql then false else true)) := fun I w ρ hρ => by
  have h1 := hx ▸ hρ x
  have h2 := ca (hρ (.const .nilIface))
  generalize e1 : ρ x = u at h1
  cases h1 with
  | ifc _ _ y hy =>
    refine ⟨.bool (if op = .eql then false else true), .v _, fun w' _ _ => ?_⟩
    have hg : (eqGuard op T x (.const .nilIface) (.iface t y) .nilIface).run P w' = .ok () w' := tN (.inr ⟨_, _, rfl⟩) w'
    have hq : (Op.equal T (.iface t y) .nilIface).run P w' = .ok false w' := by
      cases D <;> first
        | (simp at hD; done)
        | (unfold Op.equal; rw [show Op.maxDepth = 9999 + 1 from rfl, Op.equalIn]; simp only [Sem.run_bind, run_underlying hT, Result.andThen_ok]; rfl)
    rcases hop with rfl | rfl
    · simp only [execOp, e1, h2, Sem.run_bind, hg, Result.andThen_ok, binOp, hq, Sem.run_pure, if_true]
    · simp only [execOp, e1, h2, Sem.run_bind, hg, Result.andThen_ok, binOp, hq, Sem.run_pure]; rfl
end
section
variable {P : Program} {N : Nat} {fn : Func} {e : Env} {A : List Chunk} {av bv cv : AV}
def PlaceV (P : Program) (e : Env) (A : List Chunk) : ResultVar → AV → Prop
  | .tmp t, av => Wv (ev e t) av
  | .cell a t, av => CellV P e A a t av
def sb (tmps : Array Value) : ResultVar → Sem Value
  | .tmp t => pure (tmps.getD t undef)
  | .cell a t => do loadVar t (← asAddr (tmps.getD a undef))
theorem PlaceV.run {r : ResultVar} (h : PlaceV P e A r av) {F : List Chunk} {I : Info} {w : World} {tmps : Array Value} (hI : Inv I (A ++ F) w) (ht : ∀ t, Rel I w (ev e t) (tmps.getD t undef)) : ∃ x, (sb tmps r).run P w = .ok x w ∧ Rel I w av x := by
  cases r with
  | tmp t => exact ⟨_, rfl, Wv.rel h (ht t)⟩
  | cell a t =>
    obtain ⟨p, x, h1, h2, h3⟩ := h F I w _ hI (ht a);exact ⟨x, by simp only [sb, Sem.run_bind, h1, Result.andThen_ok, h2], h3⟩
theorem oG (tmps : Array Value) : results fn tmps = (do let vs ← fn.results.mapM (sb tmps); pure (if h : vs.size = 1 then vs[0] else .tuple vs)) := by
  unfold results
  congr 1
theorem lM {r : ResultVar} (hr : fn.results = #[r]) (h : PlaceV P e A r av) : ResT P fn N e A av := fun F I w tmps hI hs ht => by
  obtain ⟨x, h1, h2⟩ := h.run hI ht;refine ⟨x, ?_, h2⟩
  rw [oG, hr]
  simp [h1]
theorem bD {r q : ResultVar} (hr : fn.results = #[r, q]) (h : PlaceV P e A r av) (g : PlaceV P e A q bv) : ResT P fn N e A (.tup [av, bv]) := fun F I w tmps hI hs ht => by
  obtain ⟨x, h1, h2⟩ := h.run hI ht;obtain ⟨y, g1, g2⟩ := g.run hI ht;refine ⟨.tuple #[x, y], ?_, .tup _ [x, y] rfl (dz h2 (dz g2 fp)).2⟩
  rw [oG, hr]
  simp [h1, g1]
end
end Go.Av
namespace Go.Av
theorem Inv.alloc_chunk {I : Info} {A : List Chunk} {w : World} (h : Inv I A w) {o : Nat} (ho : I.obj o = none) (x : Obj) {c : Chunk} (hcb : c.blk (I.putObj o w.heap.size) = some w.heap.size)
    (hc : c.Holds (I.putObj o w.heap.size) (w.alloc x)) : Inv (I.putObj o w.heap.size) (c :: A) (w.alloc x) := by
  have X := h.new_obj ho x
  have hlt : ∀ c ∈ A, ∀ b, c.blk I = some b → b ≠ w.heap.size := fun c hc b hb e => by
    have := (h.holds c hc).blk_lt hb; omega
  have K : Inv (I.putObj o w.heap.size) A (w.alloc x) := by
    refine h.keep X (fun c hc b hb => ⟨cg _ _ _ (hlt c hc b hb), by simp only [Info.putObj]; rw [if_neg (hlt c hc b hb)]⟩) (fun b hb => ?_) ?_
    · simp only [World.size_alloc] at hb
      simp only [Info.putObj]; rw [if_neg (by omega)]; exact h.fresh b (by omega)
    · obtain ⟨n, hn⟩ := h.ids
      refine ⟨max n (o + 1), fun x hx => ?_⟩
      have := hn x (by omega)
      refine ⟨?_, this.2⟩
      simp only [Info.putObj]; rw [if_neg (by omega)]; exact this.1
  refine K.cons hc ?_;intro b hb d hd e
  rw [hcb] at hb
  have := ((h.holds d hd).keep X (fun b' hb' => ⟨cg _ _ _ (hlt d hd b' hb'), by simp only [Info.putObj]; rw [if_neg (hlt d hd b' hb')]⟩)).2
  rw [this] at e
  exact hlt d hd b e (ak hb).symm
theorem Inv.set_chunk {I : Info} {A : List Chunk} {w : World} {c c' : Chunk} {b : Nat} (h : Inv I (c :: A) w) (hcb : c.blk I = some b) (hcb' : c'.blk I = some b) (he : I.ext b = some 0)
    (hnc : ∀ cs E fz, w.heap[b]? ≠ some (.cells cs E fz)) {w' : World} (hos : w'.os = w.os) (htape : w'.tape = w.tape) (hout : w'.output = w.output) (hsz : w'.heap.size = w.heap.size)
    (hne : ∀ b', b' ≠ b → w'.heap[b']? = w.heap[b']?) (hc : Ext I w I w' → c'.Holds I w') : Ext I w I w' ∧ Inv I (c' :: A) w' := by
  have X : Ext I w I w' := by
    refine ⟨hos, htape, hout, by omega, fun c hc => ?_, fun c j hj => ?_, fun _ _ h => h, fun _ _ h => h, fun _ _ h => h, fun c E hE => ?_⟩
    · have : c ≠ b := fun e => by rw [e, he] at hc; cases hc
      exact ⟨hne c this, hc⟩
    · have : c ≠ b := fun e => by have := hj 0 (by rw [e]; exact he); omega
      simp only [World.cell?, hne c this]
    · by_cases e : c = b
      · subst e; obtain ⟨d, fz, hd⟩ := hE; exact absurd hd (hnc _ _ _)
      · obtain ⟨d, fz, hd⟩ := hE; exact ⟨d, fz, (hne c e).trans hd⟩
  have hap := h.apart (c := c) (b := b) hcb
  refine ⟨X, ft ((h.sub (List.sublist_cons_self ..)).keep X (fun d hd b' hb' => ?_) (fun b' hb' => h.fresh b' (by omega)) h.ids) (hc X) (fun b' hb' d hd e => ?_)⟩
  · have : b' ≠ b := fun e => hap d hd (by rw [← e]; exact hb')
    exact ⟨hne b' this, rfl⟩
  · exact hap d hd (by rw [hcb'] at hb'; cases hb'; exact e)
section
variable {I : Info} {A : List Chunk} {w : World} {P : Program} {o N d : Nat} {st : LoopState} {pend : Option Code} {fn : FuncId} {env : Nat → AV} {ps : Array Tmp} {asg bd : Code}
theorem rE {l : Nat} (h : Inv I (.lp o .ready pend fn N env ps asg bd d :: A) w) (ho : I.obj o = some l) :
    ∃ w', (Instr.beginRound l).run P w = .ok () w' ∧ Ext I w I w' ∧ Inv I (.lp o .busy pend fn N env ps asg bd d :: A) w' := by
  obtain ⟨b, r, ho', he, hh, a1, a2, a3, a4, a5, a6, a7, a8, a9⟩ := h.holds _ (List.mem_cons_self ..)
  rw [ho] at ho'; cases ho'
  have hlt := (Array.getElem?_eq_some_iff.1 hh).1
  refine ⟨{ w with heap := w.heap.setIfInBounds l (.loop { r with state := .busy }) }, ?_, ?_⟩
  · simp only [Instr.beginRound, Instr.getLoop, getObj, setObj, Sem.run_bind, Sem.run, hh, Result.andThen]
    simp [a1, hh]
  · refine h.set_chunk (c' := .lp o .busy pend fn N env ps asg bd d) (show Chunk.blk I (.lp o .ready pend fn N env ps asg bd d) = some l from ho) (show Chunk.blk I (.lp o .busy pend fn N env ps asg bd d) = some l from ho) he (fun _ _ _ e => by rw [hh] at e; cases e) rfl rfl rfl (by simp) (fun b' hb' => by simp only []; rw [Array.getElem?_setIfInBounds_ne (Ne.symm hb')]) fun X => ?_
    exact ⟨l, { r with state := .busy }, ho, he, by simp [hlt], rfl, a2, a3, a4, fun t => (a5 t).mono X, a6, a7, a8, a9⟩
theorem uJ {l : Nat} (h : Inv I (.lp o st pend fn N env ps asg bd d :: A) w) (ho : I.obj o = some l) (jump : Option Code) :
    ∃ w', (Instr.endRound l jump).run P w = .ok (.bool jump.isNone) w' ∧ Ext I w I w' ∧ Inv I (.lp o (if jump.isNone then .ready else .done) jump fn N env ps asg bd d :: A) w' := by
  obtain ⟨b, r, ho', he, hh, a1, a2, a3, a4, a5, a6, a7, a8, a9⟩ := h.holds _ (List.mem_cons_self ..)
  rw [ho] at ho'; cases ho'
  have hlt := (Array.getElem?_eq_some_iff.1 hh).1
  refine ⟨{ w with heap := w.heap.setIfInBounds l (.loop { r with state := if jump.isNone then .ready else .done, pending := jump }) }, ?_, ?_⟩
  · simp only [Instr.endRound, Instr.getLoop, getObj, setObj, Sem.run_bind, Sem.run, hh, Result.andThen]
    simp [hh]
  · refine h.set_chunk (c' := .lp o (if jump.isNone then .ready else .done) jump fn N env ps asg bd d) (show Chunk.blk I (.lp o st pend fn N env ps asg bd d) = some l from ho) (show Chunk.blk I (.lp o (if jump.isNone then .ready else .done) jump fn N env ps asg bd d) = some l from ho) he (fun _ _ _ e => by rw [hh] at e; cases e) rfl rfl rfl (by simp) (fun b' hb' => by simp only []; rw [Array.getElem?_setIfInBounds_ne (Ne.symm hb')]) fun X => ?_
    exact ⟨l, { r with state := if jump.isNone then .ready else .done, pending := jump }, ho, he, by simp [hlt], rfl, rfl, a3, a4, fun t => (a5 t).mono X, a6, a7, a8, a9⟩
theorem vJ {l : Nat} (h : Inv I (.lp o st pend fn N env ps asg bd d :: A) w) (ho : I.obj o = some l) (hs : st ≠ .busy) :
    ∃ w', (Instr.endLoop l).run P w = .ok pend w' ∧ Ext I w I w' ∧ Inv I A w' := by
  obtain ⟨b, r, ho', he, hh, a1, a2, a3, a4, a5, a6, a7, a8, a9⟩ := h.holds _ (List.mem_cons_self ..)
  rw [ho] at ho'; cases ho'
  have hlt := (Array.getElem?_eq_some_iff.1 hh).1
  have hb : (r.state == LoopState.busy) = false := by rw [a1]; cases st <;> first | rfl | exact absurd rfl hs
  obtain ⟨X, hI⟩ := h.set_chunk (c' := .lp o .exhausted pend fn N env ps asg bd d) (w' := { w with heap := w.heap.setIfInBounds l (.loop { r with state := .exhausted }) }) (show Chunk.blk I (.lp o st pend fn N env ps asg bd d) = some l from ho) (show Chunk.blk I (.lp o .exhausted pend fn N env ps asg bd d) = some l from ho) he (fun _ _ _ e => by rw [hh] at e; cases e) rfl rfl rfl (by simp) (fun b' hb' => by simp only []; rw [Array.getElem?_setIfInBounds_ne (Ne.symm hb')]) fun X =>
    ⟨l, { r with state := .exhausted }, ho, he, by simp [hlt], rfl, a2, a3, a4, fun t => (a5 t).mono X, a6, a7, a8, a9⟩
  refine ⟨_, ?_, X, hI.sub (List.sublist_cons_self ..)⟩
  simp only [Instr.endLoop, Instr.getLoop, getObj, setObj, Sem.run_bind, Sem.run, hh, Result.andThen, hb, Bool.false_eq_true, if_false]
  simp [hh, a2, Sem.run, Result.andThen]
  intro e; exact absurd (a1.symm.trans e) hs
theorem yM {l : Nat} (h : Inv I (.lp o st pend fn N env ps asg bd d :: A) w) (ho : I.obj o = some l) (args : Array Value) (hn : args.size = ps.size) :
    ∃ tmps, (Instr.yield l args).run P w = .ok (.round l fn ((ps.zip args).foldl (fun tmps (t, a) => tmps.setIfInBounds t a) tmps) asg bd) w ∧ tmps.size = N ∧ ∀ t, Rel I w (env t) (tmps.getD t undef) := by
  obtain ⟨b, r, ho', he, hh, a1, a2, a3, a4, a5, a6, a7, a8, a9⟩ := h.holds _ (List.mem_cons_self ..)
  rw [ho] at ho'; cases ho'
  refine ⟨r.tmps, ?_, a4, a5⟩
  simp only [Instr.yield, Instr.getLoop, getObj, Sem.run_bind, Sem.run, hh, Result.andThen]
  simp [a3, a6, a7, a8, hn]
theorem sF (h : Inv I A w) {tmps : Array Value} (hs : tmps.size = N) (he : ∀ t, Rel I w (env t) (tmps.getD t undef)) :
    ∃ l b o2 o1 w' I', (Instr.enterLoop fn tmps ps asg bd none).run P w = .ok (l, [{ target := .collected b, args := #[] }]) w' ∧ Ext I w I' w' ∧ I'.obj o1 = some l ∧ I'.obj o2 = some b ∧ Inv I' (.lp o1 .ready none fn N env ps asg bd o2 :: .db o2 :: A) w' := by
  obtain ⟨o2, ho2⟩ := h.fresh_obj
  have X1 := h.new_obj ho2 (.deferred (some []))
  have hI1 := h.alloc_chunk ho2 (.deferred (some [])) (c := .db o2) (by simp [Chunk.blk, Info.putObj]) ⟨w.heap.size, by simp [Info.putObj], by simp [Info.putObj], ci _ _⟩
  obtain ⟨o1, ho1⟩ := hI1.fresh_obj
  have X2 := hI1.new_obj ho1 (.loop { state := .ready, pending := none, fn, tmps, params := ps, assign := asg, body := bd, defers := w.heap.size })
  have hd : (Info.putObj I o2 w.heap.size).obj o2 = some w.heap.size := by simp [Info.putObj]
  have hI2 := hI1.alloc_chunk ho1 (.loop { state := .ready, pending := none, fn, tmps, params := ps, assign := asg, body := bd, defers := w.heap.size }) (c := .lp o1 .ready none fn N env ps asg bd o2) (by simp [Chunk.blk, Info.putObj])
    ⟨(w.alloc (.deferred (some []))).heap.size, { state := .ready, pending := none, fn, tmps, params := ps, assign := asg, body := bd, defers := w.heap.size }, by simp [Info.putObj], by simp [Info.putObj], ci _ _, rfl, rfl, rfl, hs, fun t => ((he t).mono X1).mono X2, rfl, rfl, rfl, X2.obj _ _ hd⟩
  refine ⟨(w.alloc (.deferred (some []))).heap.size, w.heap.size, o2, o1, _, _, ?_, X1.trans X2, by simp [Info.putObj], X2.obj _ _ hd, hI2⟩
  simp only [Instr.enterLoop, newObj, Sem.run_bind, Sem.run, Result.andThen]
  rfl
end
end Go.Av
namespace Go.Av
open Go.RowKit
section
variable {P : Program} {ro : Option Nat} {N : Nat} {Q : ff} {ops : Array Oper}
def ov (P : Program) (o : Nat) (args : List AV) (A : List Chunk) (R : AE → List Chunk → Prop) : Prop :=
  ∀ F I w vs l, Inv I (A ++ F) w → I.obj o = some l → RelL I w args vs → ∃ fn tmps asg bd, (Instr.yield l vs.toArray).run P w = .ok (.round l fn tmps asg bd) w ∧
    RoundIn (cW none) 0 P l fn tmps asg bd w fun e w' => ∃ I' ae A', Ext I w I' w' ∧ Inv I' (A' ++ F) w' ∧ RelE I' w' ae e ∧ R ae A'
theorem rel_yl {I : Info} {w : World} {o : Nat} {v : Value} (h : Rel I w (.yl o) v) : ∃ l, v = .func (.yield l) #[] #[] ∧ I.obj o = some l := by
  cases h with
  | yl o l h => exact ⟨l, rfl, h⟩
theorem AO.yield {rest : List Nat} {d : Nat} {x : Operand} {o : Nat} {args : Array Operand} {argTypes : Array TypeId} {Ty : TypeId} {pos : String} {after : Array Edge} {g : Option (Nat × Bool)} {e : Env} {ds : List ADef} {A : List Chunk} (B T : List Chunk)
    {R : AE → List Chunk → Prop} {avs : List AV} (hd : Nat.blt d N = true) (hx : opv e x = .yl o) (ha : args.toList.map (opv e) = avs) (p : A = B ++ T)
    (h : ov P o avs T R) (k : ∀ av T', R (.ret av) T' → AR P none N ops Q rest ⟨(d, av) :: e, ds, B ++ T'⟩)
    (kp : ∀ c T', R (.pan c) T' → Q (.panic c) ⟨e, ds, B ++ T'⟩) :
    AO P none N ops Q rest ⟨some d, .call ⟨.value x, args, argTypes⟩, Ty, pos, after, g⟩ ⟨e, ds, A⟩ := fun F I w a hI hS => by
  subst p
  have hS' := hS
  obtain ⟨l, hv, ho⟩ := rel_yl (hx ▸ hS'.op x)
  have hrl : RelL I w avs (args.toList.map a.eval) := by
    rw [← ha]; exact fq _ _ _ fun x _ => hS'.op x
  have hI2 : Inv I (T ++ (B ++ F)) w := by
    refine hI.perm ?_
    rw [← List.append_assoc]
    exact (List.perm_append_comm).append_right F
  obtain ⟨fn, tmps, asg, bd, hy, hR⟩ := h (B ++ F) I w _ l hI2 ho hrl;refine ⟨fun _ _ => cR _, ?_⟩
  have he : (#[] : Array Value) ++ args.map a.eval = (args.toList.map a.eval).toArray := by apply Array.ext'; simp
  have hex : (Oper.semAt (cW none).round a.eval ⟨some d, .call ⟨.value x, args, argTypes⟩, Ty, pos, after, g⟩).run P w = .ok (.round l fn tmps asg bd) w := by
    rw [Oper.semAt_eq _ _ _ (fun c h => by cases h)]
    simp only [execOp, resolve, hv, Deferred.ofValue, Sem.run_bind, Sem.run_pure, Result.andThen_ok, invoke, he, Array.append_empty]
    exact hy
  rw [hex]
  refine ⟨np, hR.mono fun en w' ⟨I', ae, A', E, hI', hre, hR⟩ => ?_⟩
  have hI3 : Inv I' ((B ++ A') ++ F) w' := by
    refine hI'.perm ?_
    rw [← List.append_assoc]
    exact (List.perm_append_comm).append_right F
  cases en with
  | returned v =>
    cases ae with
    | ret av =>
      have hk := k av A' hR F I' w' (a.put (some d) v) hI3 ((hS.mono E).put (ac hd) hre _)
      exact cE rest (fun _ _ _ => dy E fun _ _ h => h) _ _ hk
    | pan c => exact hre.elim
  | panicked c =>
    cases ae with
    | ret av => exact hre.elim
    | pan c' =>
      cases hre
      exact ⟨I', ⟨e, ds, B ++ A'⟩, E, hI3, ⟨hS.size, (hS.mono E).env, (hS.mono E).ds⟩, kp _ A' hR⟩
  | outgrown => cases ae <;> exact hre.elim
def ut {σ τ : Type} (T : σ → τ → List Chunk) (J : σ → Option Code) (R : AE → σ → Prop) : ff
  | .normal, s => ∃ s' t', R (.ret (.v (.bool true))) s' ∧ J s' = none ∧ Sub (T s' t') s.A
  | .ret, s => ∃ s' t', R (.ret (.v (.bool false))) s' ∧ J s' = some .ret ∧ Sub (T s' t') s.A
  | .exit id, s => ∃ s' t', R (.ret (.v (.bool false))) s' ∧ J s' = some (.exit id) ∧ Sub (T s' t') s.A
  | .goto l, s => ∃ s' t', R (.ret (.v (.bool false))) s' ∧ J s' = some (.goto l) ∧ Sub (T s' t') s.A
  | .panic _, _ => False
  | .outgrown, _ => False
def NoExit (K : St → Prop) : ff
  | .normal, s => K s
  | _, _ => False
def sn : List (Nat × AV) → Env → Env
  | [], e => e
  | p :: l, e => sn l (p :: e)
theorem rN {I : Info} {w : World} : ∀ (l : List (Nat × Value)) (m : List (Nat × AV)) (e : Env) (tmps : Array Value), tmps.size = N → (∀ t, Rel I w (ev e t) (tmps.getD t undef)) →
    l.map (·.1) = m.map (·.1) → (∀ p ∈ m, p.1 < N) → RelL I w (m.map (·.2)) (l.map (·.2)) →
    (l.foldl (fun tmps p => tmps.setIfInBounds p.1 p.2) tmps).size = N ∧ ∀ t, Rel I w (ev (sn m e) t) ((l.foldl (fun tmps p => tmps.setIfInBounds p.1 p.2) tmps).getD t undef)
  | [], m, e, tmps, hs, he, hk, hN, hr => by
    cases m with
    | nil => exact ⟨hs, he⟩
    | cons q m => simp at hk
  | p :: l, m, e, tmps, hs, he, hk, hN, hr => by
    cases m with
    | nil => simp at hk
    | cons q m =>
      simp only [List.map_cons, List.cons.injEq] at hk
      have hr' : RelL I w (q.2 :: m.map (·.2)) (p.2 :: l.map (·.2)) := hr
      have hS : RelS N I w ⟨e, [], []⟩ { tmps := tmps, defers := [] } := ⟨hs, he, .nil⟩
      have hp := hS.put (d := p.1) (by rw [hk.1]; exact hN q (List.mem_cons_self ..)) hr'.head []
      refine rN l m (q :: e) _ (by simpa using hs) (fun t => ?_) hk.2 (fun r hr => hN r (List.mem_cons_of_mem _ hr)) hr'.tail
      have := hp.env t
      have hq : q = (p.1, q.2) := by rw [hk.1]
      rw [hq]
      exact this
abbrev _root_.Go.Av.fA := @List.perm_middle
theorem wk (c d : Chunk) (A B C : List Chunk) : (A ++ (c :: B) ++ (d :: C)).Perm (c :: d :: (A ++ B ++ C)) := by
  have h1 : (A ++ (c :: B) ++ (d :: C)).Perm (d :: (A ++ (c :: B) ++ C)) := fA
  have h2 : (A ++ (c :: B) ++ C).Perm (c :: (A ++ B ++ C)) := by
    rw [List.append_assoc, List.append_assoc, List.cons_append]
    exact fA
  exact h1.trans ((h2.cons d).trans (List.Perm.swap ..))
theorem AW.rangeFunc {α σ τ : Type} {gf : Operand} {ps : Array Tmp} {asg bd : Code} {f : FuncId} {fs cs : List AV} {e : Env} {ds : List ADef} {A : List Chunk}
    (enc : α → List AV) (Own B : List Chunk) (T : σ → τ → List Chunk) (J : σ → Option Code) (D : σ → α → Prop) (RR : σ → α → AE → σ → Prop) (RE : AV → σ → List Chunk → Prop) (s₀ : σ) (t₀ : τ)
    (hg : opv e gf = .fn (.func f) fs cs) (hf : ∀ args w, (callFunc f args).run P w = .ok (.enter f args) w) (hps : ∀ x, (enc x).length = ps.size) (hN : ∀ p ∈ ps.toList, p < N)
    (p : A.Perm (Own ++ (T s₀ t₀ ++ B))) (hJ : J s₀ = none)
    (hround : ∀ l s t x, D s x → J s = none ∧ AW P (some l) N asg (NoExit (AW P (some l) N bd (ut T J (RR s x)))) ⟨sn (ps.toList.zip (enc x)) e, [], T s t⟩)
    (hiter : ∀ (o : Nat) (T' : σ → τ → List Chunk), (∀ s t x, D s x → ov P o (enc x) (T' s t) fun ae A' => ∃ s' t', RR s x ae s' ∧ A' = T' s' t') →
      ACalls P f (fs ++ [.yl o] ++ cs) (Own ++ T' s₀ t₀) fun ae A' => ∃ v s₁ t₁ A1, ae = .ret v ∧ RE v s₁ A1 ∧ A' = A1 ++ T' s₁ t₁)
    (k : ∀ o2 v s₁ t₁ A1, RE v s₁ A1 → match J s₁ with
      | none => Q .normal ⟨e, .mark o2 :: ds, .db o2 :: (A1 ++ (T s₁ t₁ ++ B))⟩
      | some c => AW P none N c Q ⟨e, .mark o2 :: ds, .db o2 :: (A1 ++ (T s₁ t₁ ++ B))⟩) :
    AW P none N (.rangeFunc gf ps asg bd) Q ⟨e, ds, A⟩ := fun F I w a hI hS => by
  refine wpIn_rangeFunc fun fn hfn => ?_
  have hS0 := hS
  obtain ⟨xs, ys, hv, hxs, hys⟩ := xJ (hg ▸ hS0.op gf);obtain ⟨l, b, o2, o1, w1, I1, hrun, E1, ho1, ho2, hI1⟩ := sF (P := P) (fn := fn) (ps := ps) (asg := asg) (bd := bd) (env := fun t => ev e t) hI hS.size hS.env
  have hS1 := hS.mono E1
  have he : xs.toArray ++ #[Value.func (.yield l) #[] #[]] ++ ys.toArray = (xs ++ [Value.func (.yield l) #[] #[]] ++ ys).toArray := by apply Array.ext'; simp
  refine ⟨l, _, w1, { target := .fn (.func f) ys.toArray, args := xs.toArray ++ #[Value.func (.yield l) #[] #[]] }, w1, f, (xs ++ [Value.func (.yield l) #[] #[]] ++ ys).toArray, w1, hrun, ?_, fun _ _ => cR _, ?_, np, ?_⟩
  · have := nF (P := P) (ρ := a.eval) (args := #[.const (.func (.yield l) #[] #[])]) (argTypes := #[]) (T := 0) (w := w1) hv
    simpa [rangeCall, Act.eval] using this
  · simp only [invoke, he]
    exact hf _ _
  -- the record's chunk
  obtain ⟨LP, hLP⟩ : ∃ LP : LoopState → Option Code → Chunk, LP = fun st j => .lp o1 st j fn N (fun t => ev e t) ps asg bd o2 := ⟨_, rfl⟩
  obtain ⟨T', hT'⟩ : ∃ T' : σ → τ → List Chunk, T' = fun s t => LP (if (J s).isNone then .ready else .done) (J s) :: T s t := ⟨_, rfl⟩
  have hY : ∀ s t x, D s x → ov P o1 (enc x) (T' s t) fun ae A' => ∃ s' t', RR s x ae s' ∧ A' = T' s' t' := by
    intro s t x hD F' I' w' vs l' hI' hol hrl;obtain ⟨hJs, hwalk⟩ := hround l' s t x hD
    have hT0 : T' s t = LP .ready none :: T s t := by rw [hT']; simp [hJs]
    rw [hT0] at hI'
    rw [hLP] at hI'
    obtain ⟨tmps, hyr, hts, htr⟩ := yM (P := P) (A := T s t ++ F') hI' hol vs.toArray (by rw [List.size_toArray, hrl.1]; exact hps x);refine ⟨fn, _, asg, bd, hyr, roundIn_of_wpIn hfn ?_⟩
    have hlen : vs.length = ps.toList.length := by rw [hrl.1, hps x]; simp
    have hzip : (ps.zip vs.toArray).toList = ps.toList.zip vs := by simp
    have hfold : (ps.zip vs.toArray).foldl (fun tmps p => tmps.setIfInBounds p.1 p.2) tmps = (ps.toList.zip vs).foldl (fun tmps p => tmps.setIfInBounds p.1 p.2) tmps := by
      rw [← hzip, Array.foldl_toList]
    have hput := rN (N := N) (ps.toList.zip vs) (ps.toList.zip (enc x)) e tmps hts htr
      (by rw [List.map_fst_zip (by omega), List.map_fst_zip (by have := hps x; simp; omega)])
      (fun q hq => hN _ (List.of_mem_zip hq).1)
      (by rw [List.map_snd_zip (by have := hps x; simp; omega), List.map_snd_zip (by omega)]; exact hrl)
    have hIp : Inv I' (T s t ++ (LP .ready none :: F')) w' := by
      rw [hLP]
      refine hI'.perm ?_;exact (fA).symm
    have hSr : RelS N I' w' ⟨sn (ps.toList.zip (enc x)) e, [], T s t⟩ { tmps := (ps.zip vs.toArray).foldl (fun tmps (p : Nat × Value) => tmps.setIfInBounds p.1 p.2) tmps, defers := [] } := by
      refine ⟨(congrArg Array.size hfold).trans hput.1, fun t0 => ?_, .nil⟩
      have h0 := hput.2 t0
      rw [← hfold] at h0
      exact h0
    refine wpIn_mono (hwalk (LP .ready none :: F') I' w' _ hIp hSr) fun e1 a1 w1' hq1 => ?_
    obtain ⟨I2, s2, E2, hI2, hS2, hq1⟩ := hq1
    cases e1 with
    | normal =>
      have hI2p : Inv I2 (.lp o1 .ready none fn N (fun t => ev e t) ps asg bd o2 :: (s2.A ++ F')) w1' := by
        refine hI2.perm ?_
        rw [hLP]
        exact fA
      obtain ⟨w2, hbr, E3, hI3⟩ := rE (P := P) hI2p (E2.obj _ _ hol);refine ⟨w2, hbr, ?_⟩
      have hI3p : Inv I2 (s2.A ++ (.lp o1 .busy none fn N (fun t => ev e t) ps asg bd o2 :: F')) w2 := hI3.perm (fA).symm
      refine wpIn_mono (hq1 _ I2 w2 a1 hI3p (hS2.mono E3)) fun e3 a3 w3 hq3 => ?_
      obtain ⟨I4, s4, E4, hI4, hS4, hq3⟩ := hq3
      have hol4 := E4.obj _ _ (E3.obj _ _ (E2.obj _ _ hol))
      have E14 := (E2.trans E3).trans E4
      have fin : ∀ (jump : Option Code) (s' : σ) (t' : τ), J s' = jump → Sub (T s' t') s4.A → RR s x (.ret (.v (.bool jump.isNone))) s' →
          ∃ v w5, (Instr.endRound l' jump).run P w3 = .ok v w5 ∧ ∃ I5 ae A', Ext I' w' I5 w5 ∧ Inv I5 (A' ++ F') w5 ∧ RelE I5 w5 ae (.returned v) ∧ ∃ s' t', RR s x ae s' ∧ A' = T' s' t' := by
        intro jump s' t' hj hsub hr
        have hI4p : Inv I4 (.lp o1 .busy none fn N (fun t => ev e t) ps asg bd o2 :: (T s' t' ++ F')) w3 := by
          have h1 := hsub.inv hI4
          exact h1.perm fA
        obtain ⟨w5, hend, E5, hI5⟩ := uJ (P := P) hI4p hol4 jump;refine ⟨_, w5, hend, I4, .ret (.v (.bool jump.isNone)), T' s' t', E14.trans E5, ?_, .v _, s', t', hr, rfl⟩
        have : T' s' t' = .lp o1 (if jump.isNone then .ready else .done) jump fn N (fun t => ev e t) ps asg bd o2 :: T s' t' := by rw [hT', hLP, ← hj]
        rw [this]
        exact hI5
      cases e3 with
      | normal => obtain ⟨s', t', hr, hj, hsub⟩ := hq3; exact fin none s' t' hj hsub hr
      | ret => obtain ⟨s', t', hr, hj, hsub⟩ := hq3; exact fin (some .ret) s' t' hj hsub hr
      | exit id => obtain ⟨s', t', hr, hj, hsub⟩ := hq3; exact fin (some (.exit id)) s' t' hj hsub hr
      | goto q => obtain ⟨s', t', hr, hj, hsub⟩ := hq3; exact fin (some (.goto q)) s' t' hj hsub hr
      | panic c => exact hq3.elim
      | outgrown => exact hq3.elim
    | _ => exact hq1.elim
  -- the one call
  have hT0 : T' s₀ t₀ = LP .ready none :: T s₀ t₀ := by rw [hT']; simp [hJ]
  have hI1p : Inv I1 ((Own ++ T' s₀ t₀) ++ (.db o2 :: (B ++ F))) w1 := by
    refine hI1.perm ?_
    rw [hT0, hLP]
    have h1 : (A ++ F).Perm (Own ++ (T s₀ t₀ ++ (B ++ F))) := by
      refine (p.append_right F).trans (List.Perm.of_eq ?_)
      simp
    refine ((h1.cons _).cons _).trans ?_;exact (List.Perm.of_eq (by simp)).trans (wk _ _ Own (T s₀ t₀) (B ++ F)).symm
  have hrl : RelL I1 w1 (fs ++ [.yl o1] ++ cs) (xs ++ [Value.func (.yield l) #[] #[]] ++ ys) :=
    ((hxs.mono E1).append (dz (.yl o1 l ho1) fp)).append (hys.mono E1)
  refine (AO.call.callsIn_wide').2 ((hiter o1 T' hY _ I1 w1 _ hI1p hrl).mono fun en w2 ⟨I2, ae, A', E2, hI2, hre, av, s₁, t₁, A1, hae, hRE, hA'⟩ => ?_)
  have E12 := E1.trans E2
  subst hae
  cases en with
  | returned v =>
      have hA2 : A' = A1 ++ (LP (if (J s₁).isNone then .ready else .done) (J s₁) :: T s₁ t₁) := by rw [hA', hT']
      rw [hA2, hLP] at hI2
      have hI2p : Inv I2 (.lp o1 (if (J s₁).isNone then .ready else .done) (J s₁) fn N (fun t => ev e t) ps asg bd o2 :: (.db o2 :: (A1 ++ (T s₁ t₁ ++ B)) ++ F)) w2 := by
        refine hI2.perm ?_;exact (wk _ _ A1 (T s₁ t₁) (B ++ F)).trans (List.Perm.of_eq (by simp))
      obtain ⟨w3, hend, E3, hI3⟩ := vJ (P := P) hI2p (E2.obj _ _ ho1) (by split <;> simp)
      have hS3 : RelS N I2 w3 ⟨e, .mark o2 :: ds, .db o2 :: (A1 ++ (T s₁ t₁ ++ B))⟩ { a with defers := [{ target := .collected b, args := #[] }] ++ a.defers } :=
        ⟨hS.size, ((hS1.mono E2).mono E3).env, .cons (.mark o2 b (E3.obj _ _ (E2.obj _ _ ho2))) ((hS1.mono E2).mono E3).ds⟩
      have hk := k o2 av s₁ t₁ A1 hRE
      refine ⟨_, w3, hend, ?_⟩
      cases hj : J s₁ with
      | none => rw [hj] at hk; exact ⟨I2, _, E12.trans E3, hI3, hS3, hk⟩
      | some c => rw [hj] at hk; exact wpIn_mono (hk F I2 w3 _ hI3 hS3) fun _ _ _ => dy (E12.trans E3) fun _ _ h => h
  | panicked c => exact hre.elim
  | outgrown => exact hre.elim
theorem Inv.lose {I : Info} {A : List Chunk} {w : World} {c : Chunk} {b : Nat} (h : Inv I (c :: A) w) (hcb : c.blk I = some b) (he : I.ext b = some 0)
    (hnc : ∀ cs E fz, w.heap[b]? ≠ some (.cells cs E fz)) {w' : World} (hos : w'.os = w.os) (htape : w'.tape = w.tape) (hout : w'.output = w.output) (hsz : w'.heap.size = w.heap.size)
    (hne : ∀ b', b' ≠ b → w'.heap[b']? = w.heap[b']?) : Ext I w I w' ∧ Inv I A w' := by
  have X : Ext I w I w' := by
    refine ⟨hos, htape, hout, by omega, fun c hc => ?_, fun c j hj => ?_, fun _ _ h => h, fun _ _ h => h, fun _ _ h => h, fun c E hE => ?_⟩
    · have : c ≠ b := fun e => by rw [e, he] at hc; cases hc
      exact ⟨hne c this, hc⟩
    · have : c ≠ b := fun e => by have := hj 0 (by rw [e]; exact he); omega
      simp only [World.cell?, hne c this]
    · by_cases e : c = b
      · subst e; obtain ⟨d, fz, hd⟩ := hE; exact absurd hd (hnc _ _ _)
      · obtain ⟨d, fz, hd⟩ := hE; exact ⟨d, fz, (hne c e).trans hd⟩
  have hap := h.apart (c := c) (b := b) hcb
  refine ⟨X, (h.sub (List.sublist_cons_self ..)).keep X (fun d hd b' hb' => ?_) (fun b' hb' => h.fresh b' (by omega)) h.ids⟩
  have : b' ≠ b := fun e => hap d hd (by rw [← e]; exact hb')
  exact ⟨hne b' this, rfl⟩
inductive Unmark : List ADef → List Chunk → List Chunk → Prop where
  | nil (A : List Chunk) : Unmark [] A A
  | cons {o : Nat} {ds : List ADef} {A A1 B : List Chunk} (p : A.Perm (.db o :: A1)) (h : Unmark ds A1 B) : Unmark (.mark o :: ds) A B
theorem Unmark.sound {fn : Func} {R : Ending → World → Prop} {F : List Chunk} {e : Env} {u : FrameMode} (hu : u ≠ .run) : ∀ {ads : List ADef} {A B : List Chunk}, Unmark ads A B → ∀ (ds : List Deferred) (I : Info) (w : World) (a : Act), Inv I (A ++ F) w → RelS N I w ⟨e, ads, A⟩ a → a.defers = ds →
    (∀ w', Ext I w I w' → Inv I (B ++ F) w' → RelS N I w' ⟨e, [], B⟩ { a with defers := [] } → LeavesIn (cW none) 0 P fn a.tmps R [] u w') → LeavesInM (cW none) 0 P fn a.tmps R ds u w := by
  intro ads A B h
  induction h with
  | nil A =>
    intro ds I w a hI hS hd k
    have := fa hS.ds
    rw [hd] at this
    subst this
    have := k w (bO _ _) hI ⟨hS.size, hS.env, .nil⟩
    exact this
  | @cons o ads' A' A1 B' p h ih =>
    intro ds I w a hI hS hd k
    have hds := hS.ds
    rw [hd] at hds
    cases hds with
    | cons hm hds =>
      rename_i d ds'
      cases hm with
      | mark o b ho =>
        have hI1 : Inv I (.db o :: (A1 ++ F)) w := hI.perm (p.append_right F)
        obtain ⟨b', ho', he, hh⟩ := hI1.holds _ (List.mem_cons_self ..)
        rw [ho] at ho'; cases ho'
        obtain ⟨X, hI2⟩ := hI1.lose (w' := w.putObj b (.deferred none)) (b := b) ho he (fun _ _ _ e => by rw [hh] at e; cases e) rfl rfl rfl (by simp) (fun b' hb' => World.putObj_heap_other hb');refine ⟨hu, .inl ⟨b, w.putObj b (.deferred none), rfl, run_takeDeferred hh, ?_⟩⟩;exact ih ds' I _ { a with defers := ds' } hI2 ⟨hS.size, (hS.mono X).env, hds.mono X⟩ rfl (fun w' X' hI' hS' => k w' (X.trans X') hI' hS')
def RetPostM (P : Program) (fn : Func) (N : Nat) (R : AE → List Chunk → Prop) : ff
  | .normal, s | .ret, s => ∃ B, Unmark s.ds s.A B ∧ ∃ av A', ResV P fn N ⟨s.env, [], B⟩ av ∧ Sub A' B ∧ R (.ret av) A'
  | _, _ => False
theorem ir {f : FuncId} {fn : Func} {c : Code} {args : List AV} {A : List Chunk} {R : AE → List Chunk → Prop} (hf : P.funcs[f]? = some fn) (hb : fn.body = some c) (hl : Nat.ble args.length fn.ntmps = true)
    (h : AW P none fn.ntmps c (RetPostM P fn fn.ntmps R) ⟨lD 0 args, [], A⟩) : ACalls P f args A R := fun F I w vs hI hv => by
  refine (callsIn_wide (n := 0)).1 (callsIn_of_wp_marks (F := Fence.wide) hf hb trivial ?_)
  refine wpIn_mono (h F I w _ hI (qk hv (ac hl))) fun e a w' hq => ?_
  obtain ⟨I', s', E, hI', hS', hq⟩ := hq
  have go : (∃ B, Unmark s'.ds s'.A B ∧ ∃ av A', ResV P fn fn.ntmps ⟨s'.env, [], B⟩ av ∧ Sub A' B ∧ R (.ret av) A') → LeavesInM (cW none) 0 P fn a.tmps (fun e w' => ∃ I' ae A', Ext I w I' w' ∧ Inv I' (A' ++ F) w' ∧ RelE I' w' ae e ∧ R ae A') a.defers .returning w' := by
    rintro ⟨B, hu, av, A', hres, hsub, hR⟩
    refine Unmark.sound (N := fn.ntmps) (e := s'.env) (F := F) (by simp) hu a.defers I' w' a hI' hS' rfl fun w2 X hI2 hS2 => ?_
    obtain ⟨v, hrun, hv⟩ := hres F I' w2 { a with defers := [] } hI2 hS2;exact ⟨v, hrun, I', .ret av, A', E.trans X, hsub.inv hI2, hv, hR⟩
  cases e with
  | normal => exact go hq
  | ret => exact go hq
  | panic c => exact hq.elim
  | exit id => exact hq.elim
  | goto l => exact hq.elim
  | outgrown => exact hq.elim
def jat (l : List Code) : Nat → Option Code
  | 0 => none
  | n + 1 => l[n]?
theorem bifz {α : Type} {z n : Nat} {x y : Option α} {v : α} (H : (bif decide (z = n) then x else y) = some v) : (z = n ∧ x = some v) ∨ (z ≠ n ∧ y = some v) := by
  by_cases h : z = n
  · left; simpa [h] using H
  · right; simpa [h] using H
def rV {σ τ : Type} (T : σ → τ → List Chunk) (J : σ → Option Code) (rv : σ × Bool) : ff
  | .normal, s => rv.2 = true ∧ J rv.1 = none ∧ ∃ t', Sub (T rv.1 t') s.A
  | .ret, s => rv.2 = false ∧ J rv.1 = some .ret ∧ ∃ t', Sub (T rv.1 t') s.A
  | .exit id, s => rv.2 = false ∧ J rv.1 = some (.exit id) ∧ ∃ t', Sub (T rv.1 t') s.A
  | .goto l, s => rv.2 = false ∧ J rv.1 = some (.goto l) ∧ ∃ t', Sub (T rv.1 t') s.A
  | _, _ => False
theorem AW.rangeK {α σ τ : Type} {gf : Operand} {ps : Array Tmp} {asg bd : Code} {fs cs : List AV} {e : Env} {ds : List ADef} {A Own C B Own1 : List Chunk}
    (enc : α → List AV) (T : σ → τ → List Chunk) (J : σ → Option Code) (k : σ → α → Option (σ × Bool)) (s₀ : σ) (t₀ : τ) (s₁ : σ) (io it : List Nat) {f : FuncId}
    (hg : opv e gf = .fn (.func f) fs cs) (hf : ∀ args w, (callFunc f args).run P w = .ok (.enter f args) w) (hps : ∀ x, (enc x).length = ps.size) (hN : ∀ p ∈ ps.toList, p < N)
    (p1 : lO A io = some (Own, C)) (p2 : lO C it = some (T s₀ t₀, B)) (hJ : J s₀ = none)
    (hiter : ∀ (o : Nat) (T' : σ → τ → List Chunk), (∀ s t x rv, k s x = some rv → ov P o (enc x) (T' s t) fun ae A' => ∃ t', ae = .ret (.v (.bool rv.2)) ∧ A' = T' rv.1 t') →
      ACalls P f (fs ++ [.yl o] ++ cs) (Own ++ T' s₀ t₀) fun ae A' => ∃ t₁, ae = .ret (.tup []) ∧ A' = Own1 ++ T' s₁ t₁)
    (hround : ∀ l s t x rv, k s x = some rv → J s = none ∧ AW P (some l) N asg (NoExit (AW P (some l) N bd (rV T J rv))) ⟨sn (ps.toList.zip (enc x)) e, [], T s t⟩)
    (kk : ∀ o2 t₁, match J s₁ with
      | none => Q .normal ⟨e, .mark o2 :: ds, .db o2 :: (Own1 ++ (T s₁ t₁ ++ B))⟩
      | some c => AW P none N c Q ⟨e, .mark o2 :: ds, .db o2 :: (Own1 ++ (T s₁ t₁ ++ B))⟩) :
    AW P none N (.rangeFunc gf ps asg bd) Q ⟨e, ds, A⟩ := by
  have hp : A.Perm (Own ++ (T s₀ t₀ ++ B)) := (dS io _ _ _ p1).trans ((dS it _ _ _ p2).append_left Own)
  refine AW.rangeFunc enc Own B T J (fun s x => ∃ rv, k s x = some rv) (fun s x ae s' => ∃ rv, k s x = some rv ∧ s' = rv.1 ∧ ae = .ret (.v (.bool rv.2))) (fun v s A1 => s = s₁ ∧ A1 = Own1) s₀ t₀ hg hf hps hN hp hJ ?_ ?_ ?_
  · rintro l s t x ⟨rv, hk⟩
    obtain ⟨h1, h2⟩ := hround l s t x rv hk
    have hpost : ∀ ex s1, rV T J rv ex s1 → ut T J (fun ae s' => ∃ rv, k s x = some rv ∧ s' = rv.1 ∧ ae = .ret (.v (.bool rv.2))) ex s1 := by
      intro ex s1 hq
      cases ex with
      | normal => obtain ⟨g1, g2, t', g3⟩ := hq; exact ⟨rv.1, t', ⟨rv, hk, rfl, by rw [g1]⟩, g2, g3⟩
      | ret => obtain ⟨g1, g2, t', g3⟩ := hq; exact ⟨rv.1, t', ⟨rv, hk, rfl, by rw [g1]⟩, g2, g3⟩
      | exit id => obtain ⟨g1, g2, t', g3⟩ := hq; exact ⟨rv.1, t', ⟨rv, hk, rfl, by rw [g1]⟩, g2, g3⟩
      | goto q => obtain ⟨g1, g2, t', g3⟩ := hq; exact ⟨rv.1, t', ⟨rv, hk, rfl, by rw [g1]⟩, g2, g3⟩
      | panic c => exact hq.elim
      | outgrown => exact hq.elim
    refine ⟨h1, h2.mono fun ex s1 hq => ?_⟩
    cases ex with
    | normal => exact AW.mono hq hpost
    | _ => exact hq
  · intro o T' hY
    refine (hiter o T' fun s t x rv hk => ?_).mono fun ae A' ⟨t₁, h1, h2⟩ => ⟨.tup [], s₁, t₁, Own1, h1, ⟨rfl, rfl⟩, h2⟩
    intro F I w vs l hI ho hv;obtain ⟨fn, tmps, asg', bd', hy, hR⟩ := hY s t x ⟨rv, hk⟩ F I w vs l hI ho hv;refine ⟨fn, tmps, asg', bd', hy, hR.mono fun en w' ⟨I', ae, A', E, hI', hre, s', t', ⟨rv', hk', hs, hae⟩, hA⟩ => ?_⟩
    rw [hk] at hk'
    cases hk'
    subst hs;exact ⟨I', ae, A', E, hI', hre, t', hae, hA⟩
  · rintro o2 v s t A1 ⟨rfl, rfl⟩
    exact kk o2 t
theorem AO.yieldT {σ τ : Type} {T : σ → τ → List Chunk} {s' : σ} {b : Bool} {rest : List Nat} {d : Nat} {x : Operand} {o : Nat} {args : Array Operand} {argTypes : Array TypeId} {Ty : TypeId} {pos : String} {after : Array Edge} {g : Option (Nat × Bool)} {e : Env} {ds : List ADef} {A : List Chunk} {avs : List AV}
    (m : Nat) (hd : Nat.blt d N = true) (hx : opv e x = .yl o) (ha : args.toList.map (opv e) = avs) (h : ov P o avs (A.drop m) fun ae A' => ∃ t', ae = .ret (.v (.bool b)) ∧ A' = T s' t')
    (k : ∀ t', AR P none N ops Q rest ⟨(d, .v (.bool b)) :: e, ds, A.take m ++ T s' t'⟩) :
    AO P none N ops Q rest ⟨some d, .call ⟨.value x, args, argTypes⟩, Ty, pos, after, g⟩ ⟨e, ds, A⟩ :=
  AO.yield (A.take m) (A.drop m) hd hx ha (List.take_append_drop m A).symm h (fun av T' ⟨t', h1, h2⟩ => by cases h1; subst h2; exact k t') (fun c T' ⟨t', h1, _⟩ => by cases h1)
theorem WK.atT {e l : Env} {ds : List ADef} {A B C : List Chunk} (m : Nat) (is : List Nat) (h : Env.le e l) (p : lO (A.take m) is = some (B, C)) : WK N ⟨e, ds, A⟩ ⟨l, ds, B ++ A.drop m⟩ := fun F I w a hI hS =>
  ⟨I, bO _ _, by
    have hp := dS is _ _ _ p
    have h0 : A = A.take m ++ A.drop m := (List.take_append_drop m A).symm
    have h1 : (A ++ F).Perm ((B ++ A.drop m) ++ (C ++ F)) := by
      have h2 : (A.take m ++ A.drop m).Perm (B ++ A.drop m ++ C) := by
        refine (hp.append_right (A.drop m)).trans ?_
        rw [List.append_assoc, List.append_assoc]
        exact List.Perm.append_left B List.perm_append_comm
      rw [← h0] at h2
      have := h2.append_right F
      simpa using this
    have h3 := hI.perm h1
    exact h3.sub (List.Sublist.append_left (List.sublist_append_right C F) _), ⟨hS.size, fun t => (h.ev t).rel (hS.env t), hS.ds⟩⟩
theorem Sub.atT {A B C : List Chunk} (m : Nat) (is : List Nat) (p : lO (A.take m) is = some (B, C)) : Sub (B ++ A.drop m) A := by
  have hp := dS is _ _ _ p
  have h2 : (B ++ A.drop m ++ C).Perm (A.take m ++ A.drop m) := by
    refine List.Perm.symm ((hp.append_right (A.drop m)).trans ?_)
    rw [List.append_assoc, List.append_assoc]
    exact List.Perm.append_left B List.perm_append_comm
  rw [List.take_append_drop] at h2
  obtain ⟨D, h1, h2⟩ := List.exists_perm_sublist (List.sublist_append_left (B ++ A.drop m) C) h2;exact ⟨D, h1, h2⟩
theorem Unmark.at {o : Nat} {ds : List ADef} {A B : List Chunk} (i : Nat) (h : A[i]? = some (.db o)) (k : Unmark ds (A.eraseIdx i) B) : Unmark (.mark o :: ds) A B := .cons (lZ A i _ h) k
end
end Go.Av
namespace Go.Av
open Go.RowKit Go.Pv
section
variable {P : Program} {I : Info} {w : World} {e : Env} {d : Option Nat} {T : TypeId} {pos : String} {after : Array Edge} {g : Option (Nat × Bool)} {x y z z2 : Operand} {A : List Chunk}
theorem xj {α : Type} {E : Enc α} {l : List α} {a : Option Addr} {m lo hi El : Nat} {xs : List Value} (hsz : bC P El = some E.k) (hrl : RelL I w (E.fl l) xs)
    (hor : l.length = 0 ∨ ∃ b off, a = some ⟨b, off, none⟩ ∧ Stab I b (off + (E.fl l).length) ∧ ∀ j, j < (E.fl l).length → w.cell? ⟨b, off + j, none⟩ = some (xs.getD j undef)) (h1 : lo ≤ hi) (h2 : hi ≤ l.length) (hm : hi ≤ m) :
    Rel I w (slE E ((l.take hi).drop lo) none) (.slice (if m = lo then a else a.map (·.add (lo * E.k))) (hi - lo) (m - lo)) := by
  by_cases hz : hi - lo = 0
  · have : (l.take hi).drop lo = [] := bc (by simp; omega)
    rw [this, hz]
    exact .slz _ _ _
  · have hlen : ((l.take hi).drop lo).length = hi - lo := by simp; omega
    have hflen : (E.fl ((l.take hi).drop lo)).length = (hi - lo) * E.k := by rw [E.fl_length, hlen]
    rcases hor with h0 | ⟨b, off, rfl, hst, hc⟩
    · omega
    rw [if_neg (by omega)]
    have hfl : (E.fl l).length = l.length * E.k := E.fl_length l
    have hb : lo * E.k + (hi - lo) * E.k ≤ l.length * E.k := by rw [← Nat.add_mul]; exact Nat.mul_le_mul_right _ (by omega)
    rw [Option.map_some, cS]
    refine .sl _ _ _ _ _ _ _ (fun j => xs.getD (lo * E.k + j) undef) E.pos hflen.symm (by omega) (hst.le (by omega)) (fun j hj => ?_) (fun j hj => ?_) (fun t h => by cases h)
    · rw [← hc _ (by omega), Nat.add_assoc]
    · have hj' : lo * E.k + j < (E.fl l).length := by omega
      have h3 : (E.fl ((l.take hi).drop lo))[j] = (E.fl l)[lo * E.k + j] := by
        have h4 : (E.fl ((l.take hi).drop lo))[j]? = (E.fl l)[lo * E.k + j]? := by
          rw [E.fl_drop, E.fl_take, List.getElem?_drop, List.getElem?_take]
          rw [if_pos]
          have : hi * E.k = lo * E.k + (hi - lo) * E.k := by rw [← Nat.add_mul]; congr 1; omega
          omega
        rw [aI hj, aI hj'] at h4
        exact ak h4
      rw [h3]; exact hrl.2 _ hj'
theorem sH {α : Type} {E : Enc α} {l : List α} {t : Option Nat} {q q' q'' : IntKind} {n n' n'' : Int} {lo hi : Nat} {El T2 : TypeId} (hT : P.underlying T = some (.slice El)) (hsz : bC P El = some E.k) (hx : opv e x = slE E l t)
    (hy : opv e y = .v (.int q n)) (hz : opv e z = .v (.int q' n')) (hz2 : opv e z2 = .v (.int q'' n'')) (hn : n = lo) (hn' : n' = hi) (hn'' : n'' = hi) (h1 : lo ≤ hi) (h2 : hi ≤ l.length) :
    OpS P ⟨d, .slice T x (some y) (some z) (some z2), T2, pos, after, g⟩ e (slE E ((l.take hi).drop lo) none) := fun I w ρ hρ => by
  obtain ⟨a, cap, xs, e1, hcap, hrl, hor⟩ := ng (hx ▸ hρ x)
  have e2 := ca (hy ▸ hρ y)
  have e3 := ca (hz ▸ hρ z)
  have e4 := ca (hz2 ▸ hρ z2)
  refine ⟨.slice (if hi = lo then a else a.map (·.add (lo * E.k))) (hi - lo) (hi - lo), ?_, fun w' _ _ => ?_⟩
  · exact xj (m := hi) hsz hrl hor h1 h2 (Nat.le_refl _)
  · simp only [execOp, e1, e2, e3, e4, Option.map_some, Option.map_none, Instr.sliceAt, Instr.slice, Instr.sliceBounds, run_underlying hT, Sem.run_bind, Sem.run_pure, Result.andThen_ok, Option.isSome_none, Option.isSome_some, Bool.false_eq_true, if_false,
      if_true, fD hn'' (Nat.le_trans h2 hcap), fD hn' (Nat.le_refl hi), fD hn h1, bz hsz]
theorem vS {α : Type} {E : Enc α} {l r : List α} {t : Option Nat} {q q' q'' : IntKind} {a b : Int} {El T2 : TypeId} (hT : P.underlying T = some (.slice El)) (hsz : bC P El = some E.k) (hx : opv e x = slE E l t)
    (hy : opv e y = .v (.int q a)) (hz : opv e z = .v (.int q' b)) (hz2 : opv e z2 = .v (.int q'' b)) (hg : re a b l.length = true) (hr : sub l a b = r) : OpS P ⟨d, .slice T x (some y) (some z) (some z2), T2, pos, after, g⟩ e (slE E r none) := by
  obtain ⟨h1, h2, h3⟩ := yk hg;subst hr;exact sH hT hsz hx hy hz hz2 (lo := a.toNat) (hi := b.toNat) (by omega) (by omega) (by omega) (by omega) (by omega)
def mQ (P : Program) : List Field → Nat → Bool
  | [], _ => true
  | f :: fs, i => decide (f.name ≠ "_") && Nat.beq f.offset i && tu P f.type && mQ P fs (i + 1)
theorem px {n : Nat} {xs ys : List Value} (w : World) : ∀ (fs : List Field) (off : Nat) (rs : List Bool), mQ P fs off = true → off + fs.length = xs.length → off + fs.length = ys.length → rs.length = fs.length →
    (∀ (i : Nat) (hi : i < fs.length), (Op.equalIn (n + 1) fs[i].type (xs.getD (off + i) undef) (ys.getD (off + i) undef)).run P w = .ok (rs.getD i true) w) →
    (Op.eqFields (n + 1) xs.toArray ys.toArray fs).run P w = .ok (rs.all id) w
  | [], off, rs, _, _, _, hr, _ => by
    have : rs = [] := List.eq_nil_of_length_eq_zero (by simpa using hr)
    subst this; rfl
  | f :: fs, off, rs, hf, hx, hy, hr, h => by
    simp only [mQ, Bool.and_eq_true, decide_eq_true_eq] at hf
    obtain ⟨⟨⟨h1, h2⟩, h3⟩, h4⟩ := hf
    have h2' := Nat.eq_of_beq_eq_true h2
    cases rs with
    | nil => simp at hr
    | cons r rs =>
      unfold tu at h3
      split at h3
      · rename_i D hD
        have hD' : gd D = false := by simpa using h3
        have h0 := h 0 (by simp)
        simp only [List.getElem_cons_zero, Nat.add_zero, List.getD_cons_zero] at h0
        simp only [List.length_cons] at hx hy
        simp only [Op.eqFields, if_pos h1, Sem.run_bind, h2', pr hD hD' (show off < xs.length by omega) w, pr hD hD' (show off < ys.length by omega) w, Result.andThen_ok, h0]
        have ih := px (n := n) (xs := xs) (ys := ys) w fs (off + 1) rs h4 (by omega) (by omega) (by simpa using hr) (fun i hi => by
          have := h (i + 1) (by simpa using hi)
          simpa [Nat.add_assoc, Nat.add_comm 1 i] using this)
        cases r with
        | true => simp only [Bool.not_true, Bool.false_eq_true, if_false, ih, List.all_cons, id, Bool.true_and]
        | false => simp only [Bool.not_false, if_true, Sem.run_pure, List.all_cons, id, Bool.false_and]
      · cases h3
theorem sM {op : BinOp} {as_ bs : List AV} {rs : List Bool} {r : Bool} {fs : Array Field} {T' T2 : TypeId} (hop : op = .eql ∨ op = .neq) (hT : P.underlying T = some (.struct fs)) (hp : P.stoodInHeld T = false) (hf : mQ P fs.toList 0 = true) (hg : P.eqGuardType P.depth T = false)
    (hx : opv e x = .agg as_) (hy : opv e y = .agg bs) (hl : sp P (fs.toList.map (·.type)) as_ bs = some rs) (hr : rs.all id = r) : OpS P ⟨d, .binOp op T x y T', T2, pos, after, g⟩ e (B (if op = .eql then r else !r)) := fun I w ρ hρ => by
  have h1 := hx ▸ hρ x
  have h2 := hy ▸ hρ y
  generalize e1 : ρ x = u at h1
  generalize e2 : ρ y = v at h2
  have hfo : P.fieldsOf T = fs := by simp [Program.fieldsOf, hT]
  cases h1 with
  | agg _ xs hlx hrx =>
    cases h2 with
    | agg _ ys hly hry =>
      obtain ⟨k1, k2, k3, k4⟩ := qI _ _ _ _ _ _ hl ⟨hlx, hrx⟩ ⟨hly, hry⟩
      simp only [List.length_map] at k1 k2 k3
      refine ⟨.bool (if op = .eql then r else !r), .v _, fun w' _ _ => ?_⟩
      have hq : (Op.equal T (.agg xs.toArray) (.agg ys.toArray)).run P w' = .ok r w' := by
        rw [← hr]
        unfold Op.equal
        rw [show Op.maxDepth = (Op.maxDepth - 1) + 1 from rfl, run_equalIn_struct w' _ _ _ _ (by rw [hfo]; exact hT) hp, hfo]
        refine px (n := Op.maxDepth - 2) w' fs.toList 0 rs hf (by omega) (by omega) (by omega) (fun i hi => ?_)
        have := k4 (Op.maxDepth - 2) w' i (by simpa using hi)
        simpa using this
      rcases hop with rfl | rfl
      · simp only [execOp, e1, e2, Sem.run_bind, qJ hg, Result.andThen_ok, binOp, hq, Sem.run_pure, if_true]
      · simp only [execOp, e1, e2, Sem.run_bind, qJ hg, Result.andThen_ok, binOp, hq, Sem.run_pure]; rfl
end
end Go.Av
namespace Go.Av
open Go.RowKit Go.Pv
section
variable {P : Program} {I : Info} {w : World} {e : Env} {d : Option Nat} {T : TypeId} {pos : String} {after : Array Edge} {g : Option (Nat × Bool)} {x y : Operand} {A : List Chunk}
theorem qH {p q : Nat → Option (Nat × Nat)} : ∀ (parts : List (Nat × Value)) (cs : Array Value), (∀ r ∈ parts, p r.1 = q r.1) → Instr.fill p cs parts = Instr.fill q cs parts
  | [], _, _ => rfl
  | (i, v) :: rest, cs, h => by
    have h0 := h (i, v) (List.mem_cons_self ..)
    simp only at h0
    have ih := fun cs => qH (p := p) (q := q) rest cs (fun r hr => h r (List.mem_cons_of_mem _ hr))
    simp only [Instr.fill, h0]
    cases q i with
    | none => rfl
    | some r => simp only [ih]
theorem uR {El bytes k n : Nat} {parts : Array (Nat × Operand)} {zs : List Value} {cs : List AV} {T2 : TypeId} {ρ : Operand → Value} (hT : P.underlying T = some (.slice El)) (hE : df P El = some (k, bytes)) (hz : zeroCells P El = some zs) (hn : Nat.ble (n * k) 16777216 = true)
    (hok : rq e parts.toList = true) (hi : (parts.toList.all fun p => Nat.blt p.1 n) = true) (hf : rg ((List.range n).map fun i => (i * k, k)) ((lV zs (n * k)).map AV.v) (parts.toList.map fun p => (p.1, opv e p.2)) = some cs) (hρ : ∀ x, Rel I w (opv e x) (ρ x)) :
    ∃ ys : List Value, (execOp ρ ⟨d, .buildSlice T n parts, T2, pos, after, g⟩).run P w = .ok (.value (.slice (some ⟨w.heap.size, 0, none⟩) n n)) (w.alloc (.cells ys.toArray El)) ∧ RelL I w cs ys := by
  obtain ⟨i, z, hin, hzi, hzs, hsz, hby⟩ := fx hE
  have hcz : bC P El = some k := by simp only [bC, hin, Option.map_some, hsz]
  have hzz : zs = z.cells.toList := by
    simp only [zeroCells, hin, Option.bind_some, hzi, Option.map_some, Option.some.injEq] at hz
    exact hz.symm
  have hti : (typeInfo El).run P w = .ok i w := by simp [typeInfo, program, hin, Sem.run]
  have hzv : (zeroValue El).run P w = .ok z w := by simp only [zeroValue, Sem.run_bind, hti, Result.andThen_ok, hzi, Sem.run_pure]
  obtain ⟨ys, hy, hyr⟩ := pJ (I := I) (w := w) ((List.range n).map fun i => (i * k, k)) (parts.toList.map fun p => (p.1, opv e p.2)) (parts.toList.map fun p => (p.1, ρ p.2)) _ _ cs (by simp) (fun j hj => by
    have hj' : j < parts.toList.length := by simpa using hj
    simp only [List.getElem_map, List.map_map, List.getD, List.getElem?_map, aI hj', Option.map_some, Option.getD_some, Function.comp]
    refine mz (hρ _) ?_
    have h := List.all_eq_true.1 hok _ (List.getElem_mem hj')
    cases hc : bA (opv e parts.toList[j].2) with
    | true => exact .inl rfl
    | false => rw [hc, Bool.false_or] at h; exact .inr (vh h)) (kT (lV zs (n * k))) hf
  refine ⟨ys, ?_, hyr⟩
  have hpm : (parts.map fun (i, x) => (i, ρ x)).toList = parts.toList.map fun p => (p.1, ρ p.2) := by simp
  have hfill : Instr.fill (fun i => some (i * k, k)) (lV zs (n * k)).toArray (parts.map fun (i, x) => (i, ρ x)).toList = some ys.toArray := by
    rw [hpm, ← hy]
    refine qH _ _ fun r hr => ?_
    obtain ⟨p, hp, rfl⟩ := List.mem_map.1 hr
    have hlt : p.1 < n := by
      have := List.all_eq_true.1 hi p hp
      exact ac this
    simp [hlt]
  have hle := ac hn
  have hz0 : (if n * k = 0 then (pure #[] : Sem (Array Value)) else do pure (← zeroValue El).cells).run P w = .ok (if n * k = 0 then #[] else z.cells) w := by
    split
    · rfl
    · simp only [Sem.run_bind, hzv, Result.andThen_ok, Sem.run_pure]
  have hrow : (Array.range (n * k)).map ((if n * k = 0 then #[] else z.cells)[· % (if n * k = 0 then #[] else z.cells).size]!) = (lV zs (n * k)).toArray := by
    by_cases h0 : n * k = 0
    · simp [h0, lV]
    · simp only [if_neg h0]
      have hk0 : 0 < z.cells.size := by
        rw [hzs]
        rcases Nat.eq_zero_or_pos k with h | h
        · rw [h, Nat.mul_zero] at h0; exact absurd rfl h0
        · exact h
      apply Array.ext'
      simp only [Array.toList_map, Array.toList_range, lV, List.toList_toArray, hzz, Array.length_toList]
      refine List.map_congr_left fun j _ => ?_
      have hj : j % z.cells.size < z.cells.size := Nat.mod_lt _ hk0
      simp [List.getD, hj]
  simp only [execOp, Instr.buildSlice, Sem.run_bind, run_underlying hT, Result.andThen_ok, bz hcz, Sem.run_pure]
  rw [if_neg (by omega)]
  have hfill2 : Instr.fill (fun i => some (i * k, k)) (lV zs (n * k)).toArray (parts.map fun x => (x.1, ρ x.2)).toList = some ys.toArray := hfill
  by_cases h0 : n * k = 0
  · rw [if_pos h0] at hrow
    rw [if_pos h0]
    simp only [Sem.run_bind, Sem.run_pure, Result.andThen_ok]
    rw [hrow]
    simp only [hfill2, newRow, Sem.run_bind, run_newObj_alloc, Result.andThen_ok, Sem.run_pure]
  · rw [if_neg h0] at hrow
    rw [if_neg h0]
    simp only [Sem.run_bind, hzv, Sem.run_pure, Result.andThen_ok]
    rw [hrow]
    simp only [hfill2, newRow, Sem.run_bind, run_newObj_alloc, Result.andThen_ok, Sem.run_pure]
theorem dZ {α : Type} {E : Enc α} {l : List α} {El bytes n : Nat} {parts : Array (Nat × Operand)} {zs : List Value} {T2 : TypeId} (hT : P.underlying T = some (.slice El)) (hE : df P El = some (E.k, bytes)) (hz : zeroCells P El = some zs) (hn : Nat.ble (n * E.k) 16777216 = true)
    (hok : rq e parts.toList = true) (hi : (parts.toList.all fun p => Nat.blt p.1 n) = true) (hl : l.length = n) (hf : rg ((List.range n).map fun i => (i * E.k, E.k)) ((lV zs (n * E.k)).map AV.v) (parts.toList.map fun p => (p.1, opv e p.2)) = some (E.fl l)) :
    OpR P ⟨d, .buildSlice T n parts, T2, pos, after, g⟩ e A (slE E l none) A := fun F I w ρ hI hρ => by
  obtain ⟨ys, hrun, hrl⟩ := uR (d := d) (T2 := T2) (pos := pos) (after := after) (g := g) hT hE hz hn hok hi hf hρ
  have X := hI.new_still (.cells ys.toArray El)
  refine ⟨_, .slice (some ⟨w.heap.size, 0, none⟩) n n, _, _, hrun, .inl rfl, X, hI.alloc_still _, ?_⟩
  unfold slE
  refine .sl E.k (E.fl l) none _ 0 _ _ (fun j => ys.getD j undef) E.pos (by rw [E.fl_length, hl]) (Nat.le_refl _) ?_ ?_ (hrl.mono X).2 (fun t h => by cases h)
  · intro m hm; simp [Info.still] at hm
  · intro j hj
    have hj' : j < ys.length := by rw [hrl.1]; exact hj
    rw [Nat.zero_add]
    simp only [World.cell?, ci]
    simp only [Option.isSome_none, Bool.false_eq_true, if_false, List.getElem?_toArray, List.getD, aI hj', Option.getD_some]
end
theorem mL {P : Program} {f : FuncId} {vs1 bs : List AV} {A : List Chunk} {R : AE → List Chunk → Prop} (h : WvL vs1 bs) (g : ACalls P f bs A R) : ACalls P f vs1 A R := fun F I w vs hI hv => g F I w vs hI (h.rel hv)
end Go.Av
namespace Go.Av
def mc : Enc Nat := ⟨1, fun n => [.v (.func (.func n) #[] #[])], by decide, fun _ => rfl, fun _ c h => by simp at h; subst h; rfl⟩
theorem agg_rel {I : Info} {w : World} {cs ds : List AV} {x : Value} (h : WvL cs ds) (hr : Rel I w (.agg cs) x) : Rel I w (.agg ds) x := by
  cases hr with
  | agg _ xs hl hr =>
    have := h.rel ⟨hl, hr⟩
    exact .agg _ xs this.1 this.2
theorem jL {P : Program} {o : Oper} {e : Env} {A A' : List Chunk} {av : AV} {cs ds : List AV} (t : Nat) (hw : WvL cs ds) (h : OpR P o ((t, .agg ds) :: e) A av A') (hc : ev e t = .agg cs := by rfl) : OpR P o e A av A' := fun F I w ρ hI hρ => h F I w ρ hI (fun x => by
  cases x with
  | tmp u =>
    show Rel I w (match Nat.beq t u with | true => .agg ds | false => ev e u) _
    cases hb : Nat.beq t u with
    | true =>
      have : t = u := Nat.eq_of_beq_eq_true hb
      subst this
      have := hρ (.tmp t)
      rw [show opv e (.tmp t) = .agg cs from hc] at this
      exact agg_rel hw this
    | false => exact hρ (.tmp u)
  | const c => exact hρ (.const c)
  | global g => exact hρ (.global g)
  | func f => exact hρ (.func f))
section
variable {P : Program} {ro : Option Nat} {N : Nat} {Q : ff} {ops : Array Oper}
theorem AO.callFPan {rest : List Nat} {d : Nat} {x : Operand} {f : FuncId} {fs cs : List AV} {args : Array Operand} {argTypes : Array TypeId} {T : TypeId} {pos : String} {after : Array Edge} {g : Option (Nat × Bool)} {e : Env} {ds : List ADef} {A A1 B : List Chunk} {c : List PanicEntry} {avs : List AV} (is : List Nat)
    (hd : Nat.blt d N = true) (hx : FnV (opv e x) (.func f) fs cs) (hf : ∀ args w, (callFunc f args).run P w = .ok (.enter f args) w) (ha : fs ++ args.toList.map (opv e) ++ cs = avs)
    (h : ACalls P f avs A1 (fun ae A' => ae = .pan c ∧ A' = [])) (p : lO A is = some (A1, B)) (k : Q (.panic c) ⟨e, ds, B⟩) :
    AO P ro N ops Q rest ⟨some d, .call ⟨.value x, args, argTypes⟩, T, pos, after, g⟩ ⟨e, ds, A⟩ :=
  AO.callF B hd hx hf ha h (dS is _ _ _ p) (fun av A' ⟨h1, _⟩ => by cases h1) (fun c' A' ⟨h1, h2⟩ => by cases h1; subst h2; exact k)
end
end Go.Av
namespace Go.Av
open Go.RowKit
section
variable {I : Info} {A : List Chunk} {w : World}
theorem vm {t n : Nat} {v : Value} (h : Rel I w (.sk t n) v) : (∃ b c, I.tok t = some (some b, 0, c) ∧ n ≤ c ∧ v = .slice (some ⟨b, 0, none⟩) n c) ∨ (I.tok t = some (none, 0, 0) ∧ n = 0 ∧ v = .slice none 0 0) := by
  cases h with
  | sk t n b c h hn => exact .inl ⟨b, c, h, hn, rfl⟩
  | sknil t h => exact .inr ⟨h, rfl, rfl⟩
theorem Inv.nil_stk (h : Inv I A w) {t : Nat} (ht : I.tok t = none) : Ext I w (I.nilTok t) w ∧ Inv (I.nilTok t) (.stk t [] :: A) w := by
  obtain ⟨X, h1⟩ := h.nil_tok ht 0;refine ⟨X, ft (h1.sub (List.sublist_cons_self ..)) ⟨none, 0, by simp [Info.nilTok], fun _ => ⟨rfl, rfl⟩, fun b e => by cases e⟩ ?_⟩
  intro b hb; simp [Chunk.blk, Info.nilTok] at hb
theorem Inv.stk_of_tok {t b c : Nat} {E0 : TypeId} {cs : List AV} {arr : List Value} (hI : Inv I (.tok t E0 :: A) w) (ht : I.tok t = some (some b, 0, c)) (hca : CellsAt w b arr) (hal : arr.length = c) (hn : cs.length ≤ c)
    (hr : RelL I w cs (arr.take cs.length)) : Inv I (.stk t cs :: A) w := by
  obtain ⟨ob, n', c', ht2, _, hh⟩ := hI.holds _ (List.mem_cons_self ..)
  rw [ht] at ht2; cases ht2
  obtain ⟨he, _, _⟩ := hh b rfl;exact ft (hI.sub (List.sublist_cons_self ..)) ⟨some b, c, ht, fun e => (by cases e), fun b' e => by cases e; exact ⟨he, hn, arr, hca, hal, hr⟩⟩ (fun b' hb' d hd e => hI.apart (c := .tok t E0) (b := b') hb' d hd e)
theorem RelL.take {cs : List AV} {xs : List Value} (h : RelL I w cs xs) (m : Nat) : RelL I w (cs.take m) (xs.take m) := by
  refine ⟨by simp [h.1], fun j hj => ?_⟩
  have h1 : j < cs.length := by simp at hj; omega
  have h2 : j < m := by simp at hj; omega
  rw [List.getElem_take]
  have := h.2 j h1
  rw [show (xs.take m).getD j undef = xs.getD j undef from by simp [List.getD, List.getElem?_take, h2]]
  exact this
theorem Inv.stk_take {t : Nat} {cs : List AV} (hI : Inv I (.stk t cs :: A) w) (m : Nat) : Inv I (.stk t (cs.take m) :: A) w := by
  obtain ⟨ob, c, ht, h0, hh⟩ := hI.holds _ (List.mem_cons_self ..);refine ft (hI.sub (List.sublist_cons_self ..)) ⟨ob, c, ht, fun e => ?_, fun b e => ?_⟩ (fun b' hb' d hd e => hI.apart (c := .stk t cs) (b := b') hb' d hd e)
  · obtain ⟨h1, h2⟩ := h0 e
    exact ⟨h1, by rw [h2]; simp⟩
  · obtain ⟨he, hn, arr, hca, hal, hr⟩ := hh b e
    refine ⟨he, by rw [List.length_take]; omega, arr, hca, hal, ?_⟩
    rw [List.length_take, ← List.take_take]
    exact hr.take m
theorem Inv.push_stk {t b c n : Nat} {cs : List AV} (h : Inv I (.stk t cs :: A) w) (ht : I.tok t = some (some b, 0, c)) (hn : n ≤ cs.length) (hc : n < c) {a : AV} {u : Value} (hr : Rel I w a u) :
    Ext I w I (w.setCell ⟨b, n, none⟩ u) ∧ Inv I (.stk t (cs.take n ++ [a]) :: A) (w.setCell ⟨b, n, none⟩ u) := by
  obtain ⟨ob, c', ht2, _, hh⟩ := h.holds _ (List.mem_cons_self ..)
  rw [ht] at ht2; cases ht2
  obtain ⟨he, hcs, arr, hca, hal, hrl⟩ := hh b rfl
  have X : Ext I w I (w.setCell ⟨b, n, none⟩ u) := by
    refine ⟨rfl, rfl, rfl, by simp, fun b' hb' => ⟨fZ _ _ _ _ (fun e => by simp only at e; rw [e, he] at hb'; cases hb'), hb'⟩, fun b' j' hj' => ?_, fun _ _ h => h, fun _ _ h => h, fun _ _ h => h, fun _ _ h => h.setCell _ _⟩;refine World.cell?_setCell_other _ _ _ _ (fun e => ?_)
    cases e
    have := hj' 0 he; omega
  refine ⟨X, ft ((h.sub (List.sublist_cons_self ..)).keep X (fun d hd b' hb' => ⟨fZ _ _ _ _ (fun e => ?_), rfl⟩) (fun b' hb' => h.fresh b' (by simpa using hb')) h.ids) ?_ (fun b' hb' d hd e => h.apart (c := .stk t cs) (b := b') hb' d hd e)⟩
  · exact h.apart (c := .stk t cs) (b := b) (by simp [Chunk.blk, ht]) d hd (by simp only at e; rw [← e]; exact hb')
  · have hl : (cs.take n ++ [a]).length = n + 1 := by simp; omega
    refine ⟨some b, c, ht, fun e => (by cases e), fun b' e => ?_⟩
    cases e
    refine ⟨he, by omega, arr.set n u, kA hca n u, by simp [hal], ?_⟩
    rw [hl]
    refine ⟨by simp; omega, fun i hi => ?_⟩
    rw [hl] at hi
    rw [show ((arr.set n u).take (n + 1)).getD i undef = (arr.set n u).getD i undef from by simp [List.getD, List.getElem?_take, hi]]
    by_cases hin : i = n
    · subst hin
      rw [List.getElem_append_right (by simp; omega)]
      have : (arr.set i u).getD i undef = u := by simp only [List.getD, List.getElem?_set_self (show i < arr.length by omega), Option.getD_some]
      rw [this]
      simpa [Nat.min_eq_left hn] using hr.mono X
    · have hlt : i < n := by omega
      rw [List.getElem_append_left (by simp; omega), List.getElem_take]
      have h1 := hrl.2 i (by omega)
      have : (arr.set n u).getD i undef = (arr.take cs.length).getD i undef := by
        simp only [List.getD, List.getElem?_set_ne (show n ≠ i by omega), List.getElem?_take, if_pos (show i < cs.length by omega)]
      rw [this]
      exact h1.mono X
end
section
variable {P : Program} {I : Info} {w : World}
theorem oE {A : List Chunk} {T T2 El : TypeId} {D2 : TypeDesc} {bytes n : Nat} {cs : List AV} {a : AV} {u : Value} {ty : TypeId}
    (hT : P.underlying T = some (.slice El)) (hT2 : P.underlying T2 = some D2) (hD2 : km D2 = false) (hE : df P El = some (1, bytes))
    (hI : Inv I A w) (hn : cs.length = n) (hu : Src P I w 1 u [a] 1) (hcell : bA a = true) (hb : (n + 1) * bytes ≤ 140737488355328) (hs : n + 1 ≤ 140737488355328)
    (base : Option Addr) (cap : Nat) (old : List Value) (hol : old.length = n) (hro : RelL I w cs old) (hcap : cap < n + 1)
    (hold : (Builtin.firstCells 1 n (.slice base n cap)).run P w.drew = .ok old.toArray w.drew) :
    ∃ v' w' I' t', (Builtin.append_ #[T, T2] ty #[.slice base n cap, u]).run P w = .ok v' w' ∧ Ext I w I' w' ∧ Inv I' (.stk t' (cs ++ [a]) :: A) w' ∧ Rel I' w' (.sk t' (n + 1)) v' := by
  obtain ⟨i, z, hi, hz, hzs, hsz, hby⟩ := fx hE;obtain ⟨xs, hml, hrl, hlen, hfirst⟩ := hu
  have hxl : xs.length = 1 := hrl.1
  have hcz : bC P El = some 1 := by simp only [bC, hi, Option.map_some, hsz]
  obtain ⟨t', ht'⟩ := hI.fresh_tok
  have hge := grownCap_ge w (n + 1) cap El
  generalize hg : grownCap w (n + 1) cap El = c at hge
  have hch : (choose (.appendCap (n + 1) cap El)).run P w = .ok c w.drew := by
    rw [run_choose_drew, ← hg]
    rfl
  have hfit : ¬ (Builtin.nextslicecap (n + 1) cap * i.bytes > 2 ^ 48) := by
    have := growslice_fits (need := n + 1) (old := cap) (bytes := i.bytes) (by omega) (by rw [hby]; exact hb)
    omega
  have hdrop : Inv I A w.drew := hI.drew
  have hzl : (Builtin.zeroCells z.cells (c - (n + 1))).size = c - (n + 1) := by rw [size_zeroCells, hzs, Nat.mul_one]
  have harr : (old ++ xs ++ (Builtin.zeroCells z.cells (c - (n + 1))).toList).length = c := by
    simp only [List.length_append, hol, hxl, Array.length_toList, hzl]
    omega
  have X := hdrop.new_row ht' 0 c (.cells (old ++ xs ++ (Builtin.zeroCells z.cells (c - (n + 1))).toList).toArray El (0, 0))
  have hI' := hdrop.alloc_row ht' 0 (old ++ xs ++ (Builtin.zeroCells z.cells (c - (n + 1))).toList) El (0, 0) (Nat.zero_le _) (.inl rfl)
  rw [harr] at hI'
  have XX := (Ext.drew I w).trans X
  have htk : (I.putTok t' w.drew.heap.size 0 c).tok t' = some (some w.drew.heap.size, 0, c) := by simp [Info.putTok]
  have hS : Inv (I.putTok t' w.drew.heap.size 0 c) (.stk t' (cs ++ [a]) :: A) (w.drew.alloc (.cells (old ++ xs ++ (Builtin.zeroCells z.cells (c - (n + 1))).toList).toArray El (0, 0))) := by
    refine hI'.stk_of_tok htk (arr := old ++ xs ++ (Builtin.zeroCells z.cells (c - (n + 1))).toList) ⟨El, (0, 0), ci _ _, .inl rfl⟩ harr (by simp [hn]; omega) ?_
    have hl : (old ++ xs).length = (cs ++ [a]).length := by simp [hol, hn, hxl]
    rw [← hl, List.take_left' rfl]
    exact (RelL.append hro hrl).mono XX
  refine ⟨.slice (some ⟨w.drew.heap.size, 0, none⟩) (n + 1) c, _, _, t', ?_, XX, hS, .sk t' (n + 1) _ c htk hge⟩
  have hti : (typeInfo El).run P w = .ok i w := by simp [typeInfo, program, hi, Sem.run]
  have hti2 : (typeInfo El).run P w.drew = .ok i w.drew := by simp [typeInfo, program, hi, Sem.run]
  have hzv : (zeroValue El).run P w.drew = .ok z w.drew := by simp only [zeroValue, Sem.run_bind, hti2, Result.andThen_ok, hz, Sem.run_pure]
  have hroom : (askRoom (c * i.bytes)).run P w.drew = .ok () w.drew := by unfold askRoom; split <;> rfl
  have hcf : (choose (.appendCap (n + 1) cap El)).run P w = .ok c w.drew := hch
  have hm : IntKind.i64.max = 9223372036854775807 := by decide
  have heq : old.toArray ++ xs.toArray ++ Builtin.zeroCells z.cells (c - (n + 1)) = (old ++ xs ++ (Builtin.zeroCells z.cells (c - (n + 1))).toList).toArray := by apply Array.ext'; simp
  cases D2 <;> cases hD2
  all_goals
    simp only [Builtin.append_, List.getElem?_toArray, List.getElem?_cons_zero, List.getElem?_cons_succ, run_underlying hT, run_underlying hT2, Sem.run_bind, Sem.run_pure, Result.andThen_ok, bz hcz, hlen, Bool.false_eq_true, if_false]
    rw [if_neg (show ¬ n + 1 ≤ cap by omega)]
    simp only [false_or, Sem.run_bind, hti, Result.andThen_ok]
    rw [if_neg (show ¬ (((n + 1 : Nat) : Int) > IntKind.i64.max ∧ i.bytes = 0) by omega)]
    simp only [Sem.run_bind, hti, Result.andThen_ok, Sem.run_pure]
    rw [if_neg hfit]
    simp only [Sem.run_bind, hti2, hcf, Result.andThen_ok, Sem.run_pure, hroom, hold, hfirst w.drew (fun _ _ _ => rfl), Bool.not_false, if_true, hzv, newRow, run_newObj_alloc]
    rw [heq]
theorem rF {A : List Chunk} {T T2 El : TypeId} {D2 : TypeDesc} {bytes n t : Nat} {cs : List AV} {a : AV} {v u : Value} {ty : TypeId}
    (hT : P.underlying T = some (.slice El)) (hT2 : P.underlying T2 = some D2) (hD2 : km D2 = false) (hE : df P El = some (1, bytes))
    (hI : Inv I (.stk t cs :: A) w) (hv : Rel I w (.sk t n) v) (hn : n ≤ cs.length) (hu : Src P I w 1 u [a] 1) (hcell : bA a = true) (hb : (n + 1) * bytes ≤ 140737488355328) (hs : n + 1 ≤ 140737488355328) :
    ∃ v' w' I' t', (Builtin.append_ #[T, T2] ty #[v, u]).run P w = .ok v' w' ∧ Ext I w I' w' ∧ Inv I' (.stk t' (cs.take n ++ [a]) :: A) w' ∧ Rel I' w' (.sk t' (n + 1)) v' := by
  have hu0 := hu
  obtain ⟨i, z, hi, hz, hzs, hsz, hby⟩ := fx hE
  have hcz : bC P El = some 1 := by simp only [bC, hi, Option.map_some, hsz]
  obtain ⟨ob, c0, ht0, h0, hh⟩ := hI.holds _ (List.mem_cons_self ..)
  have hsub := hI.sub (List.sublist_cons_self ..)
  rcases vm hv with ⟨b, c, h, hnc, rfl⟩ | ⟨h, rfl, rfl⟩
  rotate_left
  · exact oE (ty := ty) (cs := []) hT hT2 hD2 hE hsub rfl hu0 hcell hb hs none 0 [] rfl fp (by omega) (run_firstCells_none ..)
  · have e0 := h.symm.trans ht0
    obtain ⟨rfl, rfl⟩ : some b = ob ∧ c = c0 := by
      simp only [Option.some.injEq, Prod.mk.injEq] at e0
      exact ⟨e0.1, e0.2.2⟩
    obtain ⟨he, hcl, arr, hca, hal, hrl⟩ := hh b rfl
    by_cases hfit : n + 1 ≤ c
    · obtain ⟨xs, hml, hr1, hlen, hfirst⟩ := hu
      have hxl : xs.length = 1 := hr1.1
      obtain ⟨x, rfl⟩ : ∃ x, xs = [x] := by
        cases xs with
        | nil => cases hxl
        | cons x r => cases r with
          | nil => exact ⟨x, rfl⟩
          | cons y r => simp at hxl
      have hx : Rel I w a x := hr1.2 0 (by simp)
      obtain ⟨X, hI'⟩ := hI.push_stk h hn (by omega) hx
      have h1c := gC hx hcell
      have h0 : w.cell? ⟨b, n, none⟩ = some (arr.getD n undef) := by rw [hca.cell]; simp [List.getD, aI (show n < arr.length by omega)]
      have hst : (storeCells ⟨b, n, none⟩ [x]).run P w = .ok () (w.setCell ⟨b, n, none⟩ x) := by
        simp only [storeCells, Sem.run_bind, cS, Nat.add_zero, run_store P w _ _ _ h1c, h0, hca.free (show n < arr.length by omega), Bool.false_eq_true, if_false, Result.andThen_ok, Sem.run_pure]
      refine ⟨.slice (some ⟨b, 0, none⟩) (n + 1) c, _, I, t, ?_, X, hI', .sk t (n + 1) b c h hfit⟩
      cases D2 <;> cases hD2
      all_goals
        simp only [Builtin.append_, List.getElem?_toArray, List.getElem?_cons_zero, List.getElem?_cons_succ, run_underlying hT, run_underlying hT2, Sem.run_bind, Sem.run_pure, Result.andThen_ok, bz hcz, hlen, Bool.false_eq_true, if_false]
        rw [if_pos hfit]
        simp only [Sem.run_bind, hfirst w (fun _ _ _ => rfl), Bool.not_false, if_true, Result.andThen_ok, Sem.run_pure, cS, Nat.zero_add, Nat.mul_one, hst]
    · have hnc' : n = c := by omega
      have hl : (cs.take n).length = n := by rw [List.length_take]; omega
      have hro : RelL I w (cs.take n) (arr.take n) := by
        have := hrl.take n
        rw [List.take_take, Nat.min_eq_left hn] at this
        exact this
      exact oE (ty := ty) hT hT2 hD2 hE hsub hl hu0 hcell hb hs (some ⟨b, 0, none⟩) c (arr.take n) (by rw [List.length_take]; omega) hro (by omega) (by
        refine run_firstCells_some _ 1 n _ _ _ _ (by rw [List.length_take]; omega) (fun j v hj => ?_)
        have hjn : j < n := by have := (List.getElem?_eq_some_iff.1 hj).1; rw [List.length_take] at this; omega
        rw [cS, Nat.zero_add]
        show w.cell? ⟨b, j, none⟩ = some v
        rw [hca.cell]
        rw [List.getElem?_take, if_pos hjn] at hj
        exact hj)
end
section
variable {P : Program} {e : Env} {d : Option Nat} {T : TypeId} {pos : String} {after : Array Edge} {g : Option (Nat × Bool)} {x y : Operand} {av : AV} {A : List Chunk}
theorem rH {α : Type} {E : Enc α} {l : List α} {m : α} {a : AV} {t n : Nat} {t2 : Option Nat} {El T2 T3 bytes : Nat} {D2 : TypeDesc} (i : Nat) (hT : P.underlying T = some (.slice El)) (hT2 : P.underlying T2 = some D2) (hD2 : km D2 = false) (hE : df P El = some (1, bytes)) (hk : E.k = 1)
    (hx : opv e x = .sk t n) (hy : opv e y = slE E [m] t2) (hm : E.f m = [a]) (hA : A[i]? = some (.stk t (E.fl l))) (hn : n = l.length) (hb : (n + 1) * bytes ≤ 140737488355328) (hs : n + 1 ≤ 140737488355328) :
    OpX P ⟨d, .call ⟨.builtin .append, #[x, y], #[T, T2]⟩, T3, pos, after, g⟩ e A (fun av A' => ∃ t', av = .sk t' (n + 1) ∧ A' = A.set i (.stk t' (E.fl (l ++ [m])))) := fun F I w ρ hI hρ => by
  have hfl : (E.fl l).length = n := by rw [E.fl_length, hk, Nat.mul_one, hn]
  have hu : Src P I w 1 (ρ y) [a] 1 := by
    have := xI (P := P) (hy ▸ hρ y)
    rw [hk] at this
    simpa [Enc.fl, hm] using this
  have hc : bA a = true := E.cell m a (by rw [hm]; simp)
  obtain ⟨v', w', I', t', h1, h2, h3, h4⟩ := rF (ty := T3) hT hT2 hD2 hE (hI.take_at hA) (hx ▸ hρ x) (by omega) hu hc hb hs
  have e1 : (E.fl l).take n ++ [a] = E.fl (l ++ [m]) := by
    rw [List.take_of_length_le (by omega)]
    simp [Enc.fl, hm]
  rw [e1] at h3
  exact ⟨_, v', w', I', _, _, nH h1, .inl rfl, h2, fU hA h3, h4, t', rfl, rfl⟩
theorem fh {t n : Nat} {El T2 : TypeId} (hT : P.underlying T = some (.slice El)) (hx : opv e x = .sk t n) : OpS P ⟨d, .call ⟨.builtin .len, #[x], #[T]⟩, T2, pos, after, g⟩ e (i64 n) := fun I w ρ hρ => by
  have h := hx ▸ hρ x
  generalize e1 : ρ x = v at h
  rcases vm h with ⟨b, c, hk, hn, rfl⟩ | ⟨hk, rfl, rfl⟩
  · refine ⟨_, .v _, fun w' _ _ => ?_⟩
    simp only [execOp, resolve, List.map_toArray, List.map_cons, List.map_nil, e1, Sem.run_bind, Sem.run_pure, Result.andThen_ok, invoke, builtin, Builtin.len_, List.getElem?_toArray, List.getElem?_cons_zero, run_underlying hT]
    rfl
  · refine ⟨_, .v _, fun w' _ _ => ?_⟩
    simp only [execOp, resolve, List.map_toArray, List.map_cons, List.map_nil, e1, Sem.run_bind, Sem.run_pure, Result.andThen_ok, invoke, builtin, Builtin.len_, List.getElem?_toArray, List.getElem?_cons_zero, run_underlying hT]
    rfl
theorem pZ {t n : Nat} {q : IntKind} {k : Int} {m : Nat} {El T2 : TypeId} (hT : P.underlying T = some (.slice El)) (hsz : bC P El = some 1) (hx : opv e x = .sk t n) (hy : opv e y = .v (.int q k)) (hm : k = m) (ha : m < n) :
    OpS P ⟨d, .indexAddr T x y, T2, pos, after, g⟩ e (.skp t m) := fun I w ρ hρ => by
  have h := hx ▸ hρ x
  have e2 := ca (hy ▸ hρ y)
  generalize e1 : ρ x = v at h
  rcases vm h with ⟨b, c, hk, hn, rfl⟩ | ⟨hk, rfl, rfl⟩
  rotate_left
  · omega
  · refine ⟨.pointer (some ⟨b, m, none⟩), .skp _ _ b c hk, fun w' _ _ => ?_⟩
    subst hm
    simp only [execOp, e1, e2, Instr.indexAt, asIntOf, Sem.run_bind, Sem.run_pure, Result.andThen_ok, run_underlying hT]
    rw [if_pos ⟨Int.natCast_nonneg _, by omega⟩]
    simp only [Sem.run_bind, bz hsz, Result.andThen_ok, Sem.run_pure, Int.toNat_natCast, cS, Nat.mul_one, Nat.zero_add]
theorem uM {t m i : Nat} {cs : List AV} {c : AV} {D : TypeDesc} {T2 : TypeId} (hT : P.underlying T = some D) (hD : gd D = false) (hx : opv e x = .skp t m) (hA : A[i]? = some (.stk t cs)) (hc : cs[m]? = some c) :
    OpR P ⟨d, .load T x, T2, pos, after, g⟩ e A c A := fun F I w ρ hI hρ => by
  have h := hx ▸ hρ x
  generalize e1 : ρ x = v at h
  cases h with
  | skp t m b cp ho =>
    obtain ⟨ob, c', ht', _, hh⟩ := hI.holds _ (kj hA F)
    rw [ho] at ht'; cases ht'
    obtain ⟨he, hcl, arr, hca, hal, hrl⟩ := hh b rfl
    have hlt : m < cs.length := (List.getElem?_eq_some_iff.1 hc).1
    have h0 : w.cell? ⟨b, m, none⟩ = some (arr.getD m undef) := by rw [hca.cell]; simp [List.getD, show m < arr.length by omega]
    have hr := hrl.2 m hlt
    rw [(List.getElem?_eq_some_iff.1 hc).2] at hr
    rw [show (arr.take cs.length).getD m undef = arr.getD m undef from by simp [List.getD, List.getElem?_take, hlt]] at hr
    refine ⟨_, _, w, I, ?_, .inl rfl, bO _ _, hI, hr⟩
    simp only [execOp, e1, Instr.loadAt, Instr.sureAddr, Sem.run_bind, Sem.run_pure, Result.andThen_ok, loadVar, gq hT hD, Bool.false_eq_true, if_false, run_load, h0]
theorem uL {t n hi i : Nat} {q' : IntKind} {n' : Int} {z : Operand} {cs : List AV} {El T2 : TypeId} (hT : P.underlying T = some (.slice El)) (hsz : bC P El = some 1) (hx : opv e x = .sk t n)
    (hz : opv e z = .v (.int q' n')) (hn' : n' = hi) (h2 : hi ≤ n) (hA : A[i]? = some (.stk t cs)) :
    OpR P ⟨d, .slice T x none (some z) none, T2, pos, after, g⟩ e A (.sk t hi) (A.set i (.stk t (cs.take hi))) := fun F I w ρ hI hρ => by
  have h := hx ▸ hρ x
  have e3 := ca (hz ▸ hρ z)
  generalize e1 : ρ x = v at h
  have hI2 := fU hA ((hI.take_at hA).stk_take hi)
  rcases vm h with ⟨b, c, hk, hn, rfl⟩ | ⟨hk, rfl, rfl⟩
  · refine ⟨_, .slice (some ⟨b, 0, none⟩) hi c, w, I, ?_, .inl rfl, bO _ _, hI2, .sk _ _ b c hk (by omega)⟩
    simp only [execOp, e1, e3, Option.map_some, Option.map_none, Instr.sliceAt, Instr.slice, Instr.sliceBounds, run_underlying hT, Sem.run_bind, Sem.run_pure, Result.andThen_ok, fD hn' (show hi ≤ c by omega), bz hsz]
    by_cases hc : c = 0 <;> simp [hc, cS]
  · have h0 : hi = 0 := by omega
    subst h0;refine ⟨_, .slice none 0 0, w, I, ?_, .inl rfl, bO _ _, hI2, .sknil _ hk⟩
    simp only [execOp, e1, e3, Option.map_some, Option.map_none, Instr.sliceAt, Instr.slice, Instr.sliceBounds, run_underlying hT, Sem.run_bind, Sem.run_pure, Result.andThen_ok, fD hn' (Nat.le_refl 0), bz hsz]
    simp
end
end Go.Av
namespace Go.Av
open Go.RowKit Go.Pv
section
variable {P : Program} {ro : Option Nat} {N : Nat} {Q : ff} {ops : Array Oper} {l : List Nat} {e : Env} {ds : List ADef} {A : List Chunk}
theorem Inv.nil_stkAt {I : Info} {w : World} {F : List Chunk} {o : Nat} {cs : List AV} (hI : Inv I (A ++ F) w) (i j : Nat) (hA : A[i]? = some (.obj o cs)) (hj : cs[j]? = some (.v (.slice none 0 0))) :
    ∃ t I', Ext I w I' w ∧ Inv I' ((.stk t [] :: A.set i (.obj o (cs.set j (.sk t 0)))) ++ F) w := by
  obtain ⟨t, ht⟩ := hI.fresh_tok;obtain ⟨E, hI'⟩ := hI.nil_stk ht
  have hp : Inv (I.nilTok t) (.obj o cs :: .stk t [] :: (A.eraseIdx i ++ F)) w := hI'.perm ((((lZ A i _ hA).append_right F).cons _).trans (List.Perm.swap _ _ _))
  have hK : Inv (I.nilTok t) (.obj o (cs.set j (.sk t 0)) :: .stk t [] :: (A.eraseIdx i ++ F)) w := by
    refine ft (hp.sub (List.sublist_cons_self ..)) ?_ (fun b hb d hd e => ?_)
    · obtain ⟨b, arr, ho, he, hc, hr⟩ := hp.holds _ (List.mem_cons_self ..)
      refine ⟨b, arr, ho, he, hc, by simp [hr.1], fun i hi => ?_⟩
      have hi' : i < cs.length := by simpa using hi
      by_cases hij : j = i
      · subst hij
        simp only [List.getElem_set_self]
        have := hr.2 j hi'
        have hcj : cs[j] = .v (.slice none 0 0) := (List.getElem?_eq_some_iff.1 hj).2
        rw [hcj] at this
        generalize arr.getD j undef = x at this
        cases this
        exact .sknil t (by simp [Info.nilTok])
      · rw [List.getElem_set_ne hij]; exact hr.2 i hi'
    · exact hp.apart (c := .obj o cs) (b := b) hb d hd e
  exact ⟨t, _, E, hK.perm ((List.Perm.swap _ _ _).trans (((nS A i _ _ hA).append_right F).cons _))⟩
theorem AW.nil_stkAt {c : Code} {o : Nat} {cs : List AV} (i j : Nat) (hA : A[i]? = some (.obj o cs)) (hj : cs[j]? = some (.v (.slice none 0 0)))
    (h : ∀ t, AW P ro N c Q ⟨e, ds, .stk t [] :: A.set i (.obj o (cs.set j (.sk t 0)))⟩) : AW P ro N c Q ⟨e, ds, A⟩ := fun F I w a hI hS => by
  obtain ⟨t, I', E, hI'⟩ := Inv.nil_stkAt hI i j hA hj
  have hS' := hS.mono E
  exact wpIn_mono (h t F I' w a hI' ⟨hS'.size, hS'.env, hS'.ds⟩) fun _ _ _ => dy E fun _ _ h => h
end
section
variable {P : Program} {e : Env} {d : Option Nat} {T : TypeId} {pos : String} {after : Array Edge} {g : Option (Nat × Bool)} {x y z : Operand} {av : AV} {T2 El : TypeId} {A : List Chunk}
theorem lb {t n : Nat} {q : IntKind} {k : Int} (hT : P.underlying T = some (.slice El)) (hsz : bC P El = some 1) (hx : opv e x = .sk t n) (hy : opv e y = .v (.int q k)) (hg : dq k n = true) :
    OpS P ⟨d, .indexAddr T x y, T2, pos, after, g⟩ e (.skp t (Int.toNat k)) := by
  obtain ⟨h1, h2⟩ := so hg;exact pZ hT hsz hx hy (Int.toNat_of_nonneg h1).symm (by omega)
theorem oY {α : Type} [Inhabited α] {E : Enc α} {l : List α} {v : α} {a : AV} {t : Nat} {k : Int} {D : TypeDesc} (i : Nat) (hT : P.underlying T = some D) (hD : gd D = false) (hx : opv e x = .skp t (Int.toNat k)) (hA : A[i]? = some (.stk t (E.fl l))) (hk : E.k = 1)
    (hg : dq k l.length = true) (he : at_ l k = v) (ha : E.f v = [a]) : OpR P ⟨d, .load T x, T2, pos, after, g⟩ e A a A := by
  obtain ⟨h1, h2⟩ := so hg;refine uM (i := i) (cs := E.fl l) hT hD hx hA ?_;obtain ⟨m, rfl⟩ := Int.eq_ofNat_of_zero_le h1
  have hm : m < l.length := by omega
  have h3 : at_ l ((m : Nat) : Int) = l[m] := fN hm
  rw [Int.toNat_natCast]
  have hfl : ∀ (l : List α) (m : Nat) (hm : m < l.length), (E.fl l)[m]? = (E.f l[m])[0]? := fun l => by
    induction l with
    | nil => intro m hm; cases hm
    | cons b r ih =>
      intro m hm
      have hb : (E.f b).length = 1 := (E.len b).trans hk
      rw [eU]
      cases m with
      | zero => rw [List.getElem?_append_left (by omega)]; rfl
      | succ m =>
        rw [List.getElem?_append_right (by omega), hb, Nat.add_sub_cancel]
        exact ih m (by simpa using hm)
  rw [hfl l m hm, ← h3, he, ha]; rfl
theorem rR {α : Type} {E : Enc α} {l r : List α} {t : Nat} {q : IntKind} {b : Int} (i : Nat) (hT : P.underlying T = some (.slice El)) (hsz : bC P El = some 1) (hx : opv e x = .sk t l.length) (hz : opv e z = .v (.int q b)) (hA : A[i]? = some (.stk t (E.fl l))) (hk : E.k = 1)
    (hg : kF b l.length = true) (he : to_ l b = r) : OpR P ⟨d, .slice T x none (some z) none, T2, pos, after, g⟩ e A (.sk t r.length) (A.set i (.stk t (E.fl r))) := by
  obtain ⟨h1, h2⟩ := xM hg;subst he
  have hl : (to_ l b).length = Int.toNat b := by unfold to_; rw [List.length_take]; omega
  have hf : ∀ (l : List α) (m : Nat), (E.fl l).take m = E.fl (l.take m) := fun l => by
    induction l with
    | nil => intro m; simp [Enc.fl]
    | cons c r ih =>
      intro m
      have hc : (E.f c).length = 1 := (E.len c).trans hk
      rw [eU]
      cases m with
      | zero => simp [Enc.fl]
      | succ m => rw [List.take_append, hc, List.take_of_length_le (by omega), Nat.add_sub_cancel, ih m, List.take_succ_cons, eU]
  have := uL (P := P) (d := d) (T := T) (pos := pos) (after := after) (g := g) (T2 := T2) (hi := Int.toNat b) hT hsz hx hz (Int.toNat_of_nonneg h1).symm (by omega) hA
  rw [hl]
  rw [hf] at this
  exact this
theorem kM {α : Type} {E : Enc α} {l m u : List α} {v : α} {a : AV} {t : Nat} {t2 : Option Nat} {T3 bytes : Nat} {D2 : TypeDesc} (i : Nat) (hT : P.underlying T = some (.slice El)) (hT2 : P.underlying T2 = some D2) (hD2 : km D2 = false) (hE : df P El = some (1, bytes)) (hb : Nat.ble bytes 1000 = true) (hk : E.k = 1)
    (hx : opv e x = .sk t l.length) (hy : opv e y = slE E m t2) (hm : m = [v]) (ha : E.f v = [a]) (hA : A[i]? = some (.stk t (E.fl l))) (hg : dU (l.length + m.length) = true) (he : l ++ m = u) :
    OpX P ⟨d, .call ⟨.builtin .append, #[x, y], #[T, T2]⟩, T3, pos, after, g⟩ e A (fun av A' => ∃ t', av = .sk t' u.length ∧ A' = A.set i (.stk t' (E.fl u))) := by
  subst hm;subst he
  have h1 := rr hg
  have h2 := ac hb
  have h3 : (l.length + 1) * bytes ≤ 100000000000 * 1000 := Nat.mul_le_mul (by simpa using h1) h2
  have := rH (P := P) (d := d) (pos := pos) (after := after) (g := g) (T3 := T3) i hT hT2 hD2 hE hk hx hy ha hA rfl (by omega) (by simp at h1; omega)
  rw [show l.length + 1 = (l ++ [v]).length by simp] at this
  exact this
end
end Go.Av
namespace Go.Av
open Go.RowKit Go.Pv
section
variable {P : Program} {A : List Chunk} {e : Env} {x y z : Operand} {d : Option Nat} {pos : String} {after : Array Edge} {g : Option (Nat × Bool)} {T T' T2 : TypeId} {av av' : AV} {o : Oper}
theorem OpX.still {α : Type} {E : Enc α} {l : List α} {El : TypeId} (h : OpX P o e A (fun av A' => ∃ t, av = slE E l (some t) ∧ A' = .tok t El :: A)) : OpR P o e A (slE E l none) A := fun F I w ρ hI hρ => by
  obtain ⟨n, v, w', I', av, A', a, b, c, hI', hr, t, rfl, rfl⟩ := h F I w ρ hI hρ;exact ⟨n, v, w', I', a, b, c, hI'.sub (List.sublist_cons_self ..), (Wv.tok _ _ _).rel hr⟩
def ob : Option (List UInt8) → AV
  | none => eH
  | some l => slE Enc.byte l none
end
theorem AO.invoke {P : Program} {N : Nat} {Q : ff} {ro : Option Nat} {ops : Array Oper} {rest : List Nat} {d : Nat} {x : Operand} {nm : String} {f : FuncId} {t : TypeId} {args : Array Operand} {argTypes : Array TypeId} {T : TypeId} {pos : String} {after : Array Edge} {g : Option (Nat × Bool)} {e : Env} {ds : List ADef} {A A1 : List Chunk} (B : List Chunk)
    {R : AE → List Chunk → Prop} {rv : AV} {avs : List AV} (hd : Nat.blt d N = true) (hx : opv e x = .ifc t rv) (hm : ∀ v w, (method (P.types.size + Made.depth) t v nm).run P w = .ok (f, v) w) (hf : ∀ args w, (callFunc f args).run P w = .ok (.enter f args) w) (ha : args.toList.map (opv e) = avs)
    (h : ACalls P f (rv :: avs) A1 R) (p : A.Perm (A1 ++ B)) (k : ∀ av A', R (.ret av) A' → AR P ro N ops Q rest ⟨(d, av) :: e, ds, A' ++ B⟩)
    (kp : ∀ c A', R (.pan c) A' → Q (.panic c) ⟨e, ds, A' ++ B⟩) :
    AO P ro N ops Q rest ⟨some d, .call ⟨.invoke x nm, args, argTypes⟩, T, pos, after, g⟩ ⟨e, ds, A⟩ := fun F I w a hI hS => by
  have hS' := hS
  have hrl : RelL I w avs (args.toList.map a.eval) := by
    rw [← ha]; exact fq _ _ _ fun x _ => hS'.op x
  have hxr := hx ▸ hS'.op x
  generalize e1 : a.eval x = u at hxr
  cases hxr with
  | ifc _ _ y hy =>
  refine ⟨fun _ _ => cR _, ?_⟩
  have hex : (Oper.semAt (cW ro).round a.eval ⟨some d, .call ⟨.invoke x nm, args, argTypes⟩, T, pos, after, g⟩).run P w = .ok (.enter f (#[y] ++ args.map a.eval)) w := by
    rw [Oper.semAt_eq _ _ _ (fun c h => by cases h)]
    simp only [execOp, resolve, Sem.run_bind, Sem.run_pure, Result.andThen_ok, Go.invoke]
    have e0 : (#[a.eval x] ++ args.map a.eval)[0]? = some (.iface t y) := by rw [e1, Array.getElem?_append]; rfl
    have e2 : (#[a.eval x] ++ args.map a.eval).extract 1 (#[a.eval x] ++ args.map a.eval).size = args.map a.eval := by
      apply Array.ext'
      simp
      exact List.take_of_length_le (by simp)
    have e3 : Sem.run P program w = .ok P w := rfl
    simp only [e0, e2, callMethod, Sem.run_bind, e3, hm, Result.andThen_ok]
    exact hf _ _
  rw [hex]
  refine ⟨np, AO.call.callsIn_wide'.2 ?_⟩
  have hI2 : Inv I (A1 ++ (B ++ F)) w := by rw [← List.append_assoc]; exact hI.perm (p.append_right F)
  have hc := h (B ++ F) I w _ hI2 (dz hy hrl)
  have he : (y :: args.toList.map a.eval).toArray = #[y] ++ args.map a.eval := by apply Array.ext'; simp
  rw [he] at hc
  refine hc.mono fun en w' ⟨I', ae, A', E, hI', hre, hR⟩ => ?_
  have hI3 : Inv I' ((A' ++ B) ++ F) w' := by rw [List.append_assoc]; exact hI'
  cases en with
  | returned v =>
    cases ae with
    | ret av =>
      have hk := k av A' hR F I' w' (a.put (some d) v) hI3 ((hS.mono E).put (ac hd) hre _)
      exact cE rest (fun _ _ _ => dy E fun _ _ h => h) _ _ hk
    | pan c => exact hre.elim
  | panicked c =>
    cases ae with
    | ret av => exact hre.elim
    | pan c' =>
      cases hre
      exact ⟨I', ⟨e, ds, A' ++ B⟩, E, hI3, ⟨hS.size, (hS.mono E).env, (hS.mono E).ds⟩, kp _ A' hR⟩
  | outgrown => cases ae <;> exact hre.elim
end Go.Av
namespace Go.Pv
def ikm {α : Type} (c : Option Bool) (a b : Option α) : Option α := match c with
  | none => none
  | some true => a
  | some false => b
end Go.Pv
namespace Go.Av
open Go.RowKit Go.Pv
section
variable {P : Program} {ro : Option Nat} {N : Nat} {Q : ff}
theorem AW.nil_stk {c : Code} {e : Env} {ds : List ADef} {A : List Chunk} (i : Nat) (hi : ev e i = .v (.slice none 0 0))
    (h : ∀ t, AW P ro N c Q ⟨(i, .sk t 0) :: e, ds, .stk t [] :: A⟩) : AW P ro N c Q ⟨e, ds, A⟩ := fun F I w a hI hS => by
  obtain ⟨t, ht⟩ := hI.fresh_tok;obtain ⟨E, hI'⟩ := hI.nil_stk ht
  have hS' := hS.mono E
  refine wpIn_mono (h t F (I.nilTok t) w a hI' ⟨hS.size, fun j => ?_, hS'.ds⟩) fun _ _ _ => dy E fun _ _ h => h
  have hj := hS'.env j
  simp only [ev]
  cases hb : Nat.beq i j with
  | false => exact hj
  | true =>
    have := Nat.eq_of_beq_eq_true hb
    subst this
    simp only [hi] at hj
    simp only
    generalize a.tmps.getD i undef = x at hj
    cases hj
    exact .sknil t (by simp [Info.nilTok])
theorem xD {I : Info} {w : World} {A F : List Chunk} {o : Nat} {cs : List AV} {b c : AV} (hI : Inv I (A ++ F) w) (i j : Nat) (hA : A[i]? = some (.obj o cs)) (hj : cs[j]? = some b) (hw : Wv b c) :
    Inv I (A.set i (.obj o (cs.set j c)) ++ F) w := by
  have hp : Inv I (.obj o cs :: (A.eraseIdx i ++ F)) w := hI.perm ((lZ A i _ hA).append_right F)
  have hK : Inv I (.obj o (cs.set j c) :: (A.eraseIdx i ++ F)) w := by
    refine ft (hp.sub (List.sublist_cons_self ..)) ?_ (fun b hb d hd e => ?_)
    · obtain ⟨b', arr, ho, he, hc, hr⟩ := hp.holds _ (List.mem_cons_self ..)
      refine ⟨b', arr, ho, he, hc, by simp [hr.1], fun i hi => ?_⟩
      have hi' : i < cs.length := by simpa using hi
      by_cases hij : j = i
      · subst hij
        simp only [List.getElem_set_self]
        have := hr.2 j hi'
        have hcj : cs[j] = b := (List.getElem?_eq_some_iff.1 hj).2
        rw [hcj] at this
        exact hw.rel this
      · rw [List.getElem_set_ne hij]; exact hr.2 i hi'
    · exact hp.apart (c := .obj o cs) (b := b) hb d hd e
  exact hK.perm (((nS A i _ _ hA).append_right F))
theorem iZ {c : Code} {e : Env} {ds : List ADef} {A : List Chunk} {o : Nat} {cs : List AV} {a b : AV} (i j : Nat) (hA : A[i]? = some (.obj o cs)) (hj : cs[j]? = some a) (hw : Wv a b)
    (h : AW P ro N c Q ⟨e, ds, A.set i (.obj o (cs.set j b))⟩) : AW P ro N c Q ⟨e, ds, A⟩ := fun F I w a hI hS =>
  h F I w a (xD hI i j hA hj hw) ⟨hS.size, hS.env, hS.ds⟩
def ikA (a b : Nat) : Option Bool → AV
  | none => .v .nilIface
  | some true => .ifc a (.agg [])
  | some false => .ifc b (.agg [])
theorem ikA_cell (a b : Nat) (c : Option Bool) : bA (ikA a b c) = true := by
  cases c with
  | none => rfl
  | some x => cases x <;> rfl
def K2 (c : Option Bool) (p q : Prop) : Prop := match c with
  | none => False
  | some true => p
  | some false => q
theorem K2.of {α : Type} {c : Option Bool} {a b : Option α} {r : α} {p q : Prop} (e : ikm c a b = some r) (h1 : a = some r → p) (h2 : b = some r → q) : K2 c p q := by
  cases c with
  | none => cases e
  | some x => cases x with
    | true => exact h1 e
    | false => exact h2 e
variable {ops : Array Oper} {d : Nat} {x : Operand} {nm : String} {f f1 f2 : FuncId} {t t1 t2 : TypeId} {args : Array Operand} {argTypes : Array TypeId} {T : TypeId} {pos : String} {after : Array Edge} {g : Option (Nat × Bool)} {e : Env} {ds : List ADef}
theorem AO.invp {rest : List Nat} {A : List Chunk} {avs : List AV} {v : AV} {c : Option Bool} (hd : Nat.blt d N = true) (hx : opv e x = ikA t1 t2 c)
    (hm1 : ∀ v w, (method (P.types.size + Made.depth) t1 v nm).run P w = .ok (f1, v) w) (hm2 : ∀ v w, (method (P.types.size + Made.depth) t2 v nm).run P w = .ok (f2, v) w)
    (hf1 : ∀ args w, (callFunc f1 args).run P w = .ok (.enter f1 args) w) (hf2 : ∀ args w, (callFunc f2 args).run P w = .ok (.enter f2 args) w) (ha : args.toList.map (opv e) = avs)
    (h : K2 c (ACalls P f1 (.agg [] :: avs) [] (Ret v [])) (ACalls P f2 (.agg [] :: avs) [] (Ret v []))) (k : AR P ro N ops Q rest ⟨(d, v) :: e, ds, A⟩) :
    AO P ro N ops Q rest ⟨some d, .call ⟨.invoke x nm, args, argTypes⟩, T, pos, after, g⟩ ⟨e, ds, A⟩ := by
  have kk : ∀ av A', Ret v [] (.ret av) A' → AR P ro N ops Q rest ⟨(d, av) :: e, ds, A' ++ A⟩ := fun av A' ⟨h1, h2⟩ => by cases h1; subst h2; exact k
  have kq : ∀ c A', Ret v [] (.pan c) A' → Q (.panic c) ⟨e, ds, A' ++ A⟩ := fun c A' ⟨h1, _⟩ => by cases h1
  cases c with
  | none => exact h.elim
  | some b =>
    cases b with
    | true => exact AO.invoke A hd hx hm1 hf1 ha h (bu _) kk kq
    | false => exact AO.invoke A hd hx hm2 hf2 ha h (bu _) kk kq
theorem AIO.invoke {fuel : Nat} {listed : Array Bool} {A A1 : List Chunk} (B : List Chunk)
    {R : AE → List Chunk → Prop} {rv : AV} {avs : List AV} (hd : Nat.blt d N = true) (hx : opv e x = .ifc t rv) (hm : ∀ v w, (method (P.types.size + Made.depth) t v nm).run P w = .ok (f, v) w) (hf : ∀ args w, (callFunc f args).run P w = .ok (.enter f args) w) (ha : args.toList.map (opv e) = avs)
    (h : ACalls P f (rv :: avs) A1 R) (p : A.Perm (A1 ++ B)) (k : ∀ av A', R (.ret av) A' → AI P ro N ops Q fuel listed ⟨(d, av) :: e, ds, A' ++ B⟩)
    (kp : ∀ c A', R (.pan c) A' → Q (.panic c) ⟨e, ds, A' ++ B⟩) :
    AIO P ro N ops Q fuel listed ⟨some d, .call ⟨.invoke x nm, args, argTypes⟩, T, pos, after, g⟩ ⟨e, ds, A⟩ := fun hp hop F I0 w0 I w a E0 hI hS => by
  have hS' := hS
  have hrl : RelL I w avs (args.toList.map a.eval) := by
    rw [← ha]; exact fq _ _ _ fun x _ => hS'.op x
  have hxr := hx ▸ hS'.op x
  generalize e1 : a.eval x = u at hxr
  cases hxr with
  | ifc _ _ y hy =>
  have hex : (execOp a.eval ⟨some d, .call ⟨.invoke x nm, args, argTypes⟩, T, pos, after, g⟩).run P w = .ok (.enter f (#[y] ++ args.map a.eval)) w := by
    simp only [execOp, resolve, Sem.run_bind, Sem.run_pure, Result.andThen_ok, Go.invoke]
    have e0 : (#[a.eval x] ++ args.map a.eval)[0]? = some (.iface t y) := by rw [e1, Array.getElem?_append]; rfl
    have e2 : (#[a.eval x] ++ args.map a.eval).extract 1 (#[a.eval x] ++ args.map a.eval).size = args.map a.eval := by
      apply Array.ext'
      simp
      exact List.take_of_length_le (by simp)
    have e3 : Sem.run P program w = .ok P w := rfl
    simp only [e0, e2, callMethod, Sem.run_bind, e3, hm, Result.andThen_ok]
    exact hf _ _
  refine ⟨fun _ _ => cR _, ?_⟩
  rw [show (cW ro).round = ro from rfl, hop, hex]
  refine ⟨np, AO.call.callsIn_wide'.2 ?_⟩
  have hI2 : Inv I (A1 ++ (B ++ F)) w := by rw [← List.append_assoc]; exact hI.perm (p.append_right F)
  have hc := h (B ++ F) I w _ hI2 (dz hy hrl)
  have he : (y :: args.toList.map a.eval).toArray = #[y] ++ args.map a.eval := by apply Array.ext'; simp
  rw [he] at hc
  refine hc.mono fun en w' ⟨I', ae, A', E, hI', hre, hR⟩ => ?_
  have hI3 : Inv I' ((A' ++ B) ++ F) w' := by rw [List.append_assoc]; exact hI'
  cases en with
  | returned v =>
    cases ae with
    | ret av => exact ⟨I', E, k av A' hR hp F I0 w0 I' w' (a.put (some d) v) (E0.trans E) hI3 ((hS.mono E).put (ac hd) hre _)⟩
    | pan c => exact hre.elim
  | panicked c =>
    cases ae with
    | ret av => exact hre.elim
    | pan c' =>
      cases hre
      exact ⟨I', ⟨e, ds, A' ++ B⟩, E0.trans E, hI3, ⟨hS.size, (hS.mono E).env, (hS.mono E).ds⟩, kp _ A' hR⟩
  | outgrown => cases ae <;> exact hre.elim
theorem AIO.invp {fuel : Nat} {listed : Array Bool} {A : List Chunk} {avs : List AV} {v : AV} {c : Option Bool} (hd : Nat.blt d N = true) (hx : opv e x = ikA t1 t2 c)
    (hm1 : ∀ v w, (method (P.types.size + Made.depth) t1 v nm).run P w = .ok (f1, v) w) (hm2 : ∀ v w, (method (P.types.size + Made.depth) t2 v nm).run P w = .ok (f2, v) w)
    (hf1 : ∀ args w, (callFunc f1 args).run P w = .ok (.enter f1 args) w) (hf2 : ∀ args w, (callFunc f2 args).run P w = .ok (.enter f2 args) w) (ha : args.toList.map (opv e) = avs)
    (h : K2 c (ACalls P f1 (.agg [] :: avs) [] (Ret v [])) (ACalls P f2 (.agg [] :: avs) [] (Ret v []))) (k : AI P ro N ops Q fuel listed ⟨(d, v) :: e, ds, A⟩) :
    AIO P ro N ops Q fuel listed ⟨some d, .call ⟨.invoke x nm, args, argTypes⟩, T, pos, after, g⟩ ⟨e, ds, A⟩ := by
  have kk : ∀ av A', Ret v [] (.ret av) A' → AI P ro N ops Q fuel listed ⟨(d, av) :: e, ds, A' ++ A⟩ := fun av A' ⟨h1, h2⟩ => by cases h1; subst h2; exact k
  have kq : ∀ c A', Ret v [] (.pan c) A' → Q (.panic c) ⟨e, ds, A' ++ A⟩ := fun c A' ⟨h1, _⟩ => by cases h1
  cases c with
  | none => exact h.elim
  | some b =>
    cases b with
    | true => exact AIO.invoke A hd hx hm1 hf1 ha h (bu _) kk kq
    | false => exact AIO.invoke A hd hx hm2 hf2 ha h (bu _) kk kq
end
end Go.Av
namespace Go.Proofs.YtkbfjepffpddfaaGreatDoor
open Go.RowKit Go.Av Go.Pv
theorem lU (s p : List UInt8) : ACalls Tryz.prog 61 [S s, S p] [] (Ret (.tup [S (Go.Lib.trimPrefix s p), B (Go.Lib.hasPrefix s p)]) []) := by
 refine kE (rs := [.string ⟨(Go.Lib.trimPrefix s p).toArray⟩, .bool (Go.Lib.hasPrefix s p)]) rfl fun I A w vs hI hv => ?_
 obtain ⟨v1, r1, rfl, h1, hv⟩ := hv.out_cons;obtain ⟨v2, r2, rfl, h2, hv⟩ := hv.out_cons
 rw [hv.out_nil, kG h1, kG h2]
 refine (Tryz.strings_CutPrefix ⟨s.toArray⟩ ⟨p.toArray⟩ w).mono fun e w' ⟨he, hw⟩ => ⟨by simpa using he, hw ▸ Below.refl _ _⟩
theorem lib_Trim (s c : List UInt8) (hs : s.length < 4294967281) (hc : c.length < 4294967281) (ha : jf c = true) : ACalls Tryz.prog 73 [S s, S c] [] (Ret (S (Go.Lib.trimS s c)) []) := by
 refine ga fun I A w vs hI hv => ?_
 obtain ⟨v1, r1, rfl, h1, hv⟩ := hv.out_cons;obtain ⟨v2, r2, rfl, h2, hv⟩ := hv.out_cons
 rw [hv.out_nil, kG h1, kG h2]
 refine (Tryz.strings_Trim_ascii ⟨s.toArray⟩ ⟨c.toArray⟩ w (by simp [ByteArray.size]; omega) (by simpa [ByteArray.size] using hc) (fun j b hj => sh ha j b (by simpa using hj))).mono fun e w' ⟨he, hb⟩ => ⟨by simpa using he, hb⟩
theorem oS (fn s : List UInt8) (base bits : Int) (hs : s.length < 4294967281) : ACalls Tryz.prog 106 [S fn, S s, i64 base, i64 bits, .ifc 141 (i64 2)] [] (Ret (.ifc 145 .any) []) := by
 refine mf fun I A w vs hI hv => ?_
 obtain ⟨v1, r1, rfl, h1, hv⟩ := hv.out_cons;obtain ⟨v2, r2, rfl, h2, hv⟩ := hv.out_cons;obtain ⟨v3, r3, rfl, h3, hv⟩ := hv.out_cons;obtain ⟨v4, r4, rfl, h4, hv⟩ := hv.out_cons;obtain ⟨v5, r5, rfl, h5, hv⟩ := hv.out_cons
 rw [hv.out_nil, kG h1, kG h2, ca h3, ca h4, nD h5]
 obtain ⟨ev, hc, hev⟩ := tG hI (g := 3) (r := []) rfl
 refine (Tryz.strconv_toError_syntax ⟨fn.toArray⟩ ⟨s.toArray⟩ base bits ev w (by simp [ByteArray.size]; omega) hc hev).mono fun e w' ⟨N, he, _, _, hb⟩ => ⟨_, he, fun _ _ => .ifc _ _ _ (.any _), hb⟩
theorem pe (fn s : List UInt8) (base bits : Int) (hs : s.length < 4294967281) : ACalls Tryz.prog 106 [S fn, S s, i64 base, i64 bits, .ifc 141 (i64 1)] [] (Ret (.ifc 145 .any) []) := by
 refine mf fun I A w vs hI hv => ?_
 obtain ⟨v1, r1, rfl, h1, hv⟩ := hv.out_cons;obtain ⟨v2, r2, rfl, h2, hv⟩ := hv.out_cons;obtain ⟨v3, r3, rfl, h3, hv⟩ := hv.out_cons;obtain ⟨v4, r4, rfl, h4, hv⟩ := hv.out_cons;obtain ⟨v5, r5, rfl, h5, hv⟩ := hv.out_cons
 rw [hv.out_nil, kG h1, kG h2, ca h3, ca h4, nD h5]
 obtain ⟨ev, hc, hev⟩ := tG hI (g := 4) (r := []) rfl
 refine (Tryz.strconv_toError_range ⟨fn.toArray⟩ ⟨s.toArray⟩ base bits ev w (by simp [ByteArray.size]; omega) hc hev).mono fun e w' ⟨N, he, _, _, hb⟩ => ⟨_, he, fun _ _ => .ifc _ _ _ (.any _), hb⟩
theorem vQ (fn s : List UInt8) (base bits n : Int) (hs : s.length < 4294967281) (hn : n = 1 ∨ n = 2) : ACalls Tryz.prog 106 [S fn, S s, i64 base, i64 bits, kJ 141 .i64 n] [] (Ret (.ifc 145 .any) []) := by
 rcases hn with rfl | rfl
 ·exact pe fn s base bits hs
 ·exact oS fn s base bits hs
theorem gS (s sub : List UInt8) (hs : s.length < 4294967281) : ACalls Tryz.prog 40 [S s, S sub] [] (Ret (B (Go.Lib.contains s sub)) []) := by
 refine ga fun I A w vs hI hv => ?_
 obtain ⟨v1, r1, rfl, h1, hv⟩ := hv.out_cons;obtain ⟨v2, r2, rfl, h2, hv⟩ := hv.out_cons
 rw [hv.out_nil, kG h1, kG h2]
 obtain ⟨m, hm⟩ := tE hI (g := 0) (k := .i64) (r := []) rfl
 refine (Tryz.strings_Contains ⟨s.toArray⟩ ⟨sub.toArray⟩ m w (by simpa [ByteArray.size] using hs) hm).mono fun e w' ⟨he, hw⟩ => ⟨by simpa using he, hw ▸ Below.refl _ _⟩
theorem uN (s c : List UInt8) (hc : c.length < 4294967281) (ha : jf c = true) : ACalls Tryz.prog 64 [S s, S c] [] (Ret (S (Go.Lib.trimLeftS s c)) []) := by
 refine ga fun I A w vs hI hv => ?_
 obtain ⟨v1, r1, rfl, h1, hv⟩ := hv.out_cons;obtain ⟨v2, r2, rfl, h2, hv⟩ := hv.out_cons
 rw [hv.out_nil, kG h1, kG h2]
 refine (Tryz.strings_TrimLeft_ascii ⟨s.toArray⟩ ⟨c.toArray⟩ w (by simpa [ByteArray.size] using hc) (by simpa using sh ha)).mono fun e w' ⟨he, hb⟩ => ⟨by simpa using he, hb⟩
end Go.Proofs.YtkbfjepffpddfaaGreatDoor
namespace Go.Pv
def mB (F : Nat) (a1 : UInt8) : Option Bool :=
lt (Go.Lib.indexByte ([9, 10, 13, 32] : List UInt8) a1) fun x3 =>
some (decide (0 ≤ x3))
def kh (y33 : List (List UInt8)) : Option ((List UInt8)) :=
grd (pb y33 ([32] : List UInt8)) <|
lt (Go.Av.Str.join ([32] : List UInt8) y33) fun x37 =>
some x37
def gG (y7 : Int) (rec8 : ((List (List UInt8)) × Int × Int) → Option ((List UInt8))) (y28 : List (List UInt8)) (y30 : Int) : Option ((List UInt8)) :=
grd (okI (y7 + 1)) <|
rec8 (y28, y30, y7 + 1)
def gH (F : Nat) (a1 : List UInt8) (rec8 : ((List (List UInt8)) × Int × Int) → Option ((List UInt8))) (y4 : List (List UInt8)) (y6 : Int) (y7 : Int) : Option ((List UInt8)) :=
bif decide (y7 ≤ (a1.length : Int)) then
  fv (!(decide (y7 = (a1.length : Int)))) (dq y7 a1.length) <|
  lt (at_ a1 y7) fun x13 =>
  lE (!(decide (y7 = (a1.length : Int)))) (mB F x13) fun x15 =>
  bif (!((decide (y7 = (a1.length : Int))) || x15)) && (decide (y6 < 0)) then
    gG y7 rec8 y4 y7
  else
    bif ((decide (y7 = (a1.length : Int))) || x15) && (decide (0 ≤ y6)) then
      grd (re y6 y7 a1.length) <|
      lt (sub a1 y6 y7) fun x22 =>
      grd (dU (y4.length + ([x22] : List (List UInt8)).length)) <|
      lt (y4 ++ ([x22] : List (List UInt8))) fun x26 =>
      gG y7 rec8 x26 (-1)
    else
      gG y7 rec8 y4 y6
else
  kh y4
def eh (F : Nat) (a1 : List UInt8) (n : Nat) : ((List (List UInt8)) × Int × Int) → Option ((List UInt8)) :=
  loop (fun rec x => gH F a1 rec x.1 x.2.1 x.2.2) n
def mG (F : Nat) (a1 : List UInt8) : Option ((List UInt8)) :=
eh F a1 F ([], (-1), 0)
def ml (F : Nat) (a1 : Int) (a2 : Int) (a3 : Int) : Option Bool :=
some ((decide (a2 ≤ a1)) && (decide (a1 ≤ a3)))
end Go.Pv
