/-
  Errors that are a number or nothing; numbers of other kinds; walks over a text's signs; signs as texts. No program is spoken of.
-/
import Derived.Test.YtjhlnhipjomdeaaGreatDoorAvMap
set_option linter.unusedVariables false
set_option linter.unusedSimpArgs false
namespace Go.Pv
open Go
/-- A sign as a text. -/
def runeStr (n : Int) : List UInt8 := (Utf8.encode n).data.toList
/-- The sign at a place, and how many bytes it has. -/
def decR (s : List UInt8) (p : Nat) : Nat × Nat := Utf8.decode ⟨s.toArray⟩ p
end Go.Pv
namespace Go.Av
open Go.RowKit Go.Pv

/-- An error of a type whose values are numbers; nought: none. -/
def eCode (T : TypeId) (k : IntKind) (n : Int) : AV := if n = 0 then .v .nilIface else .ifc T (.v (.int k n))
/-- Some error of a type, or none (nought). -/
def eAny (T : TypeId) (n : Int) : AV := if n = 0 then .v .nilIface else .ifc T .any

section
variable {P : Program} {e : Env} {d : Option Nat} {T : TypeId} {pos : String} {after : Array Edge} {g : Option (Nat × Bool)} {x y z : Operand} {av : AV} {T1 T2 T' : TypeId}

def ifaceDesc : TypeDesc → Bool
  | .interface _ => true
  | _ => false
theorem eqn_ifc_nil {n : Nat} {t : TypeId} {v : Value} {w : World} {D : TypeDesc} (hT : P.underlying T = some D) (hD : ifaceDesc D = true) : (Op.equalIn (n + 1) T (.iface t v) .nilIface).run P w = .ok false w := by
  cases D <;> first | (cases hD; done) | simp only [Op.equalIn, Sem.run_bind, run_underlying hT, Result.andThen_ok, Sem.run_pure]
theorem eqn_nil_ifc {n : Nat} {t : TypeId} {v : Value} {w : World} {D : TypeDesc} (hT : P.underlying T = some D) (hD : ifaceDesc D = true) : (Op.equalIn (n + 1) T .nilIface (.iface t v)).run P w = .ok false w := by
  cases D <;> first | (cases hD; done) | simp only [Op.equalIn, Sem.run_bind, run_underlying hT, Result.andThen_ok, Sem.run_pure]
theorem eqn_nil_nil {n : Nat} {w : World} {D : TypeDesc} (hT : P.underlying T = some D) (hD : ifaceDesc D = true) : (Op.equalIn (n + 1) T .nilIface .nilIface).run P w = .ok true w := by
  cases D <;> first | (cases hD; done) | simp only [Op.equalIn, Sem.run_bind, run_underlying hT, Result.andThen_ok, Sem.run_pure]
theorem eqn_int {n : Nat} {t : TypeId} {k k' : IntKind} {a b : Int} {w : World} (ht : P.underlying t = some (.int k)) : (Op.equalIn (n + 1) t (.int k' a) (.int k' b)).run P w = .ok (a == b) w := by
  simp [Op.equalIn, run_underlying ht, Result.andThen]
theorem eqn_ifc_ifc {n : Nat} {t : TypeId} {k k' : IntKind} {a b : Int} {w : World} {D : TypeDesc} (hT : P.underlying T = some D) (hD : ifaceDesc D = true) (ht : P.underlying t = some (.int k)) (hc : (P.info? t).any (·.comparable) = true) :
    (Op.equalIn (n + 1 + 1) T (.iface t (.int k' a)) (.iface t (.int k' b))).run P w = .ok (a == b) w := by
  have h := eqn_int (n := n) (k' := k') (a := a) (b := b) (w := w) ht
  obtain ⟨i, hi, hi2⟩ := (Option.any_eq_true _ _).1 hc
  have hti : (typeInfo t).run P w = .ok i w := by simp [typeInfo, program, hi, Sem.run]
  cases D <;> first | (cases hD; done) | (rw [Op.equalIn]; simp only [Sem.run_bind, run_underlying hT, Result.andThen_ok, Sem.run_pure, ne_eq, not_true_eq_false, if_false, hti, hi2, Bool.not_true, Bool.false_eq_true]; exact h)
theorem eq_ifc_nil {t : TypeId} {v : Value} {w : World} {D : TypeDesc} (hT : P.underlying T = some D) (hD : ifaceDesc D = true) : (Op.equal T (.iface t v) .nilIface).run P w = .ok false w := eqn_ifc_nil (n := 9999) hT hD
theorem eq_nil_ifc {t : TypeId} {v : Value} {w : World} {D : TypeDesc} (hT : P.underlying T = some D) (hD : ifaceDesc D = true) : (Op.equal T .nilIface (.iface t v)).run P w = .ok false w := eqn_nil_ifc (n := 9999) hT hD
theorem eq_nil_nil {w : World} {D : TypeDesc} (hT : P.underlying T = some D) (hD : ifaceDesc D = true) : (Op.equal T .nilIface .nilIface).run P w = .ok true w := eqn_nil_nil (n := 9999) hT hD
theorem eq_ifc_ifc {t : TypeId} {k k' : IntKind} {a b : Int} {w : World} {D : TypeDesc} (hT : P.underlying T = some D) (hD : ifaceDesc D = true) (ht : P.underlying t = some (.int k)) (hc : (P.info? t).any (·.comparable) = true) :
    (Op.equal T (.iface t (.int k' a)) (.iface t (.int k' b))).run P w = .ok (a == b) w := eqn_ifc_ifc (n := 9998) hT hD ht hc
theorem eqGuard_c {op : BinOp} {v a b : Value} (h : a = .nilIface ∨ ∃ t y, a = .iface t y) (w : World) : (eqGuard op T x (.const v) a b).run P w = .ok () w := by
  rcases h with rfl | ⟨t, y, rfl⟩
  · cases b <;> cases op <;> simp [eqGuard]
  · cases op <;> simp [eqGuard]
theorem eqGuard_i {op : BinOp} {a b : Value} {t : TypeId} {v : Value} (hb : b = .iface t v) (h : a = .nilIface ∨ ∃ t y, a = .iface t y) (w : World) : (eqGuard op T x y a b).run P w = .ok () w := by
  subst hb
  rcases h with rfl | ⟨t, y, rfl⟩ <;> cases op <;> simp [eqGuard]

/-- What such an error is in memory. -/
theorem rel_eCode {I : Info} {w : World} {t : TypeId} {k : IntKind} {n : Int} {v : Value} (h : Rel I w (eCode t k n) v) : (n = 0 ∧ v = .nilIface) ∨ (n ≠ 0 ∧ v = .iface t (.int k n)) := by
  unfold eCode at h
  by_cases h0 : n = 0
  · rw [if_pos h0] at h; exact .inl ⟨h0, rel_v h⟩
  · rw [if_neg h0] at h
    cases h with
    | ifc _ _ y hy => exact .inr ⟨h0, by rw [rel_v hy]⟩
theorem rel_eAny {I : Info} {w : World} {t : TypeId} {n : Int} {v : Value} (h : Rel I w (eAny t n) v) : (n = 0 ∧ v = .nilIface) ∨ (n ≠ 0 ∧ ∃ y, v = .iface t y) := by
  unfold eAny at h
  by_cases h0 : n = 0
  · rw [if_pos h0] at h; exact .inl ⟨h0, rel_v h⟩
  · rw [if_neg h0] at h
    cases h with
    | ifc _ _ y hy => exact .inr ⟨h0, y, rfl⟩

theorem nil_core {op : BinOp} {n : Int} {v : Value} {D : TypeDesc} (hop : op = .eql ∨ op = .neq) (hT : P.underlying T = some D) (hD : ifaceDesc D = true) (h : (n = 0 ∧ v = .nilIface) ∨ (n ≠ 0 ∧ ∃ t y, v = .iface t y)) (ρ : Operand → Value) (e1 : ρ x = v) (h2 : ρ (.const .nilIface) = .nilIface) (w : World) :
    (execOp ρ ⟨d, .binOp op T x (.const .nilIface) T', T2, pos, after, g⟩).run P w = .ok (.value (.bool (if op = .eql then decide (n = 0) else !decide (n = 0)))) w := by
  have hg : (eqGuard op T x (.const .nilIface) v .nilIface).run P w = .ok () w := eqGuard_c (by rcases h with ⟨_, h⟩ | ⟨_, t, y, h⟩; exact .inl h; exact .inr ⟨t, y, h⟩) w
  have hb : (binOp op T v .nilIface).run P w = .ok (.bool (if op = .eql then decide (n = 0) else !decide (n = 0))) w := by
    rcases h with ⟨h0, rfl⟩ | ⟨h0, t, y, rfl⟩ <;> rcases hop with rfl | rfl <;> simp [binOp, eq_nil_nil hT hD, eq_ifc_nil hT hD, h0, Result.andThen]
  simp only [execOp, e1, h2, hg, hb, Sem.run_bind, Sem.run_pure, Result.andThen_ok]
theorem g_eq_nil_c {n : Int} {t : TypeId} {k : IntKind} {D : TypeDesc} (hT : P.underlying T = some D) (hD : ifaceDesc D = true) (hx : opv e x = eCode t k n) : OpS P ⟨d, .binOp .eql T x (.const .nilIface) T', T2, pos, after, g⟩ e (B (decide (n = 0))) := fun I w ρ hρ =>
  ⟨_, .v _, fun w' _ _ => nil_core (.inl rfl) hT hD (by rcases rel_eCode (hx ▸ hρ x) with h | ⟨h, h2⟩; exact .inl h; exact .inr ⟨h, _, _, h2⟩) ρ rfl (rel_v (hρ (.const .nilIface))) w'⟩
theorem g_ne_nil_c {n : Int} {t : TypeId} {k : IntKind} {D : TypeDesc} (hT : P.underlying T = some D) (hD : ifaceDesc D = true) (hx : opv e x = eCode t k n) : OpS P ⟨d, .binOp .neq T x (.const .nilIface) T', T2, pos, after, g⟩ e (B (!decide (n = 0))) := fun I w ρ hρ =>
  ⟨_, .v _, fun w' _ _ => nil_core (.inr rfl) hT hD (by rcases rel_eCode (hx ▸ hρ x) with h | ⟨h, h2⟩; exact .inl h; exact .inr ⟨h, _, _, h2⟩) ρ rfl (rel_v (hρ (.const .nilIface))) w'⟩
theorem g_eq_nil_a {n : Int} {t : TypeId} {D : TypeDesc} (hT : P.underlying T = some D) (hD : ifaceDesc D = true) (hx : opv e x = eAny t n) : OpS P ⟨d, .binOp .eql T x (.const .nilIface) T', T2, pos, after, g⟩ e (B (decide (n = 0))) := fun I w ρ hρ =>
  ⟨_, .v _, fun w' _ _ => nil_core (.inl rfl) hT hD (by rcases rel_eAny (hx ▸ hρ x) with h | ⟨h, y, h2⟩; exact .inl h; exact .inr ⟨h, _, _, h2⟩) ρ rfl (rel_v (hρ (.const .nilIface))) w'⟩
theorem g_ne_nil_a {n : Int} {t : TypeId} {D : TypeDesc} (hT : P.underlying T = some D) (hD : ifaceDesc D = true) (hx : opv e x = eAny t n) : OpS P ⟨d, .binOp .neq T x (.const .nilIface) T', T2, pos, after, g⟩ e (B (!decide (n = 0))) := fun I w ρ hρ =>
  ⟨_, .v _, fun w' _ _ => nil_core (.inr rfl) hT hD (by rcases rel_eAny (hx ▸ hρ x) with h | ⟨h, y, h2⟩; exact .inl h; exact .inr ⟨h, _, _, h2⟩) ρ rfl (rel_v (hρ (.const .nilIface))) w'⟩

theorem code_core {op : BinOp} {n m : Int} {v : Value} {t : TypeId} {k k' : IntKind} {D : TypeDesc} (hop : op = .eql ∨ op = .neq) (hT : P.underlying T = some D) (hD : ifaceDesc D = true) (ht : P.underlying t = some (.int k')) (hc : (P.info? t).any (·.comparable) = true) (hm : decide (m = 0) = false)
    (h : (n = 0 ∧ v = .nilIface) ∨ (n ≠ 0 ∧ v = .iface t (.int k n))) (ρ : Operand → Value) (e1 : ρ x = v) (h2 : ρ y = .iface t (.int k m)) (w : World) :
    (execOp ρ ⟨d, .binOp op T x y T', T2, pos, after, g⟩).run P w = .ok (.value (.bool (if op = .eql then decide (n = m) else !decide (n = m)))) w := by
  have hm' : m ≠ 0 := of_decide_eq_false hm
  have hg : (eqGuard op T x y v (.iface t (.int k m))).run P w = .ok () w := eqGuard_i rfl (by rcases h with ⟨_, h⟩ | ⟨_, h⟩; exact .inl h; exact .inr ⟨_, _, h⟩) w
  have hb : (binOp op T v (.iface t (.int k m))).run P w = .ok (.bool (if op = .eql then decide (n = m) else !decide (n = m))) w := by
    rcases h with ⟨h0, rfl⟩ | ⟨h0, rfl⟩
    · have hnm : ¬ n = m := by omega
      rcases hop with rfl | rfl <;> simp [binOp, eq_nil_ifc hT hD, hnm, Result.andThen]
    · rcases hop with rfl | rfl <;> simp [binOp, eq_ifc_ifc hT hD ht hc, Result.andThen] <;> rfl
  simp only [execOp, e1, h2, hg, hb, Sem.run_bind, Sem.run_pure, Result.andThen_ok]
theorem rel_ifc_int {I : Info} {w : World} {t : TypeId} {k : IntKind} {n : Int} {v : Value} (h : Rel I w (.ifc t (.v (.int k n))) v) : v = .iface t (.int k n) := by
  cases h with
  | ifc _ _ y hy => rw [rel_v hy]
theorem g_eq_code {n m : Int} {t : TypeId} {k k' : IntKind} {D : TypeDesc} (hT : P.underlying T = some D) (hD : ifaceDesc D = true) (ht : P.underlying t = some (.int k')) (hc : (P.info? t).any (·.comparable) = true) (hm : decide (m = 0) = false) (hx : opv e x = eCode t k n) (hy : opv e y = .ifc t (.v (.int k m))) :
    OpS P ⟨d, .binOp .eql T x y T', T2, pos, after, g⟩ e (B (decide (n = m))) := fun I w ρ hρ =>
  ⟨_, .v _, fun w' _ _ => code_core (.inl rfl) hT hD ht hc hm (rel_eCode (hx ▸ hρ x)) ρ rfl (rel_ifc_int (hy ▸ hρ y)) w'⟩
theorem g_ne_code {n m : Int} {t : TypeId} {k k' : IntKind} {D : TypeDesc} (hT : P.underlying T = some D) (hD : ifaceDesc D = true) (ht : P.underlying t = some (.int k')) (hc : (P.info? t).any (·.comparable) = true) (hm : decide (m = 0) = false) (hx : opv e x = eCode t k n) (hy : opv e y = .ifc t (.v (.int k m))) :
    OpS P ⟨d, .binOp .neq T x y T', T2, pos, after, g⟩ e (B (!decide (n = m))) := fun I w ρ hρ =>
  ⟨_, .v _, fun w' _ _ => code_core (.inr rfl) hT hD ht hc hm (rel_eCode (hx ▸ hρ x)) ρ rfl (rel_ifc_int (hy ▸ hρ y)) w'⟩

/-! Signs -/
theorem g_rune_str {k : IntKind} {n : Int} {r : List UInt8} {src dst : TypeId} {ks : IntKind} (hs : P.underlying src = some (.int ks)) (hd : P.underlying dst = some .string) (hx : opv e x = .v (.int k n)) (he : runeStr n = r) :
    OpS P ⟨d, .convert src dst x, T, pos, after, g⟩ e (S r) := fun I w ρ hρ => by
  have h1 := rel_v (hx ▸ hρ x)
  subst he
  refine ⟨_, .v _, fun w' _ _ => ?_⟩
  simp [execOp, h1, convert, run_underlying hs, run_underlying hd, Conv.intToString, runeStr, Result.andThen]
theorem g_next_t {A : List Chunk} {s : List UInt8} {o i p : Nat} (hx : opv e x = .pt o 0) (hA : A[i]? = some (.iter o s p)) (hp : decide (p < s.length) = true) :
    OpR P ⟨d, .next x true, T, pos, after, g⟩ e A (.tup [B true, i64 p, .v (.int .i32 (decR s p).1)]) (A.set i (.iter o s (p + (decR s p).2))) := opR_next_some hx hA (of_decide_eq_true hp)
theorem g_next_f {A : List Chunk} {s : List UInt8} {o i p : Nat} (hx : opv e x = .pt o 0) (hA : A[i]? = some (.iter o s p)) (hp : decide (p < s.length) = false) :
    OpR P ⟨d, .next x true, T, pos, after, g⟩ e A (.tup [B false]) A := opR_next_none hx hA (of_decide_eq_false hp)

/-! Bytes' bits -/
theorem ofInt_u8 (a : UInt8) : BitVec.ofInt 8 (a.toNat : Int) = a.toBitVec := by
  rw [BitVec.ofInt_natCast]
  apply BitVec.eq_of_toNat_eq
  rw [BitVec.toNat_ofNat]
  have := a.toNat_lt
  show a.toNat % 2 ^ 8 = a.toNat
  omega
theorem wrap_toNat (a : UInt8) : IntKind.u8.wrap (a.toNat : Int) = a.toNat := by rw [wrap_u8]; have := a.toNat_lt; omega
theorem or8_eq (a b : UInt8) : IntKind.u8.wrap ((BitVec.ofInt IntKind.u8.bits (a.toNat : Int) ||| BitVec.ofInt IntKind.u8.bits (b.toNat : Int)).toNat : Int) = ((a ||| b).toNat : Int) := by
  show IntKind.u8.wrap ((BitVec.ofInt 8 (a.toNat : Int) ||| BitVec.ofInt 8 (b.toNat : Int)).toNat : Int) = _
  rw [ofInt_u8, ofInt_u8, ← UInt8.toBitVec_or]
  exact wrap_toNat _
theorem and8_eq (a b : UInt8) : IntKind.u8.wrap ((BitVec.ofInt IntKind.u8.bits (a.toNat : Int) &&& BitVec.ofInt IntKind.u8.bits (b.toNat : Int)).toNat : Int) = ((a &&& b).toNat : Int) := by
  show IntKind.u8.wrap ((BitVec.ofInt 8 (a.toNat : Int) &&& BitVec.ofInt 8 (b.toNat : Int)).toNat : Int) = _
  rw [ofInt_u8, ofInt_u8, ← UInt8.toBitVec_and]
  exact wrap_toNat _
theorem g_or8 {a b : UInt8} (hx : opv e x = u8 a) (hy : opv e y = u8 b) : OpS P ⟨d, .binOp .or T x y T', T2, pos, after, g⟩ e (u8 (a ||| b)) :=
  OpS.eq (opS_or hx hy) (by rw [or8_eq])
theorem g_and8 {a b : UInt8} (hx : opv e x = u8 a) (hy : opv e y = u8 b) : OpS P ⟨d, .binOp .and T x y T', T2, pos, after, g⟩ e (u8 (a &&& b)) :=
  OpS.eq (opS_and hx hy) (by rw [and8_eq])
/-- A byte's higher bits. -/
def shr8 (a : UInt8) (k : Nat) : UInt8 := UInt8.ofNat (a.toNat / 2 ^ k)
def shl8 (a : UInt8) (k : Nat) : UInt8 := UInt8.ofNat (a.toNat * 2 ^ k)
theorem g_shr8 {a : UInt8} {k : IntKind} {n : Nat} (hx : opv e x = u8 a) (hy : opv e y = .v (.int k (n : Int))) (hn : Nat.ble n 8 = true) : OpS P ⟨d, .binOp .shr T x y T', T2, pos, after, g⟩ e (u8 (shr8 a n)) := by
  have := opS_shr (P := P) (d := d) (T := T) (pos := pos) (after := after) (g := g) (T2 := T2) (T' := T') hx hy (Int.natCast_nonneg n)
  have hn8 : n ≤ 8 := Nat.le_of_ble_eq_true hn
  have hm : min (n : Int).toNat IntKind.u8.bits = n := by show min n 8 = n; omega
  rw [hm] at this
  have h2 : (a.toNat : Int).fdiv (2 ^ n) = ((shr8 a n).toNat : Int) := by
    unfold shr8
    have h3 : a.toNat / 2 ^ n < 256 := Nat.lt_of_le_of_lt (Nat.div_le_self _ _) a.toNat_lt
    rw [UInt8.toNat_ofNat_of_lt' h3, Int.fdiv_eq_ediv_of_nonneg _ (by exact_mod_cast Nat.zero_le (2 ^ n))]
    push_cast; rfl
  rwa [h2] at this
theorem g_shl8 {a : UInt8} {k : IntKind} {n : Nat} (hx : opv e x = u8 a) (hy : opv e y = .v (.int k (n : Int))) (hn : Nat.ble n 8 = true) : OpS P ⟨d, .binOp .shl T x y T', T2, pos, after, g⟩ e (u8 (shl8 a n)) := by
  have := opS_shl (P := P) (d := d) (T := T) (pos := pos) (after := after) (g := g) (T2 := T2) (T' := T') hx hy (Int.natCast_nonneg n)
  have hn8 : n ≤ 8 := Nat.le_of_ble_eq_true hn
  have hm : min (n : Int).toNat IntKind.u8.bits = n := by show min n 8 = n; omega
  rw [hm, wrap_u8] at this
  have h2 : ((a.toNat : Int) * 2 ^ n) % 256 = ((shl8 a n).toNat : Int) := by
    unfold shl8
    have h4 : (UInt8.ofNat (a.toNat * 2 ^ n)).toNat = a.toNat * 2 ^ n % 256 := UInt8.toNat_ofNat' ..
    rw [h4, Int.natCast_emod, Int.natCast_mul, Int.natCast_pow]
    rfl
  rwa [h2] at this
end
end Go.Av
