/-
  The rules again, in the shapes that printed walks use: each takes what the plain function's own steps give. No program is spoken of.
-/
import Derived.Test.YtjhlnhipjomdeaaGreatDoorAvIter
import Derived.Test.YtjhlnhipjomdeaaGreatDoorPv
set_option linter.unusedVariables false
set_option linter.unusedSimpArgs false
namespace Go.Av
open Go.RowKit Go.Pv

theorem getD_at {α : Type} [Inhabited α] {l : List α} {m : Nat} (h : m < l.length) : l[m]? = some (at_ l (m : Int)) := by
  simp [at_, List.getD, h]

section
variable {P : Program} {e : Env} {d : Option Nat} {T : TypeId} {pos : String} {after : Array Edge} {g : Option (Nat × Bool)} {x y z : Operand} {av : AV} {T1 T2 T' : TypeId}

theorem g_add {a b : Int} (hx : opv e x = i64 a) (hy : opv e y = i64 b) (h : okI (a + b) = true) : OpS P ⟨d, .binOp .add T x y T', T2, pos, after, g⟩ e (i64 (a + b)) := opS_add hx hy (okI_s h)
theorem g_sub {a b : Int} (hx : opv e x = i64 a) (hy : opv e y = i64 b) (h : okI (a - b) = true) : OpS P ⟨d, .binOp .sub T x y T', T2, pos, after, g⟩ e (i64 (a - b)) := opS_sub hx hy (okI_s h)
theorem g_mul {a b : Int} (hx : opv e x = i64 a) (hy : opv e y = i64 b) (h : okI (a * b) = true) : OpS P ⟨d, .binOp .mul T x y T', T2, pos, after, g⟩ e (i64 (a * b)) := opS_mul hx hy (okI_s h)
theorem g_quo {a b : Int} (hx : opv e x = i64 a) (hy : opv e y = i64 b) (h : okDiv a b = true) : OpS P ⟨d, .binOp .quo T x y T', T2, pos, after, g⟩ e (i64 (a / b)) := opS_quo hx hy (okDiv_s h)
theorem g_rem {a b : Int} (hx : opv e x = i64 a) (hy : opv e y = i64 b) (h : okDiv a b = true) : OpS P ⟨d, .binOp .rem T x y T', T2, pos, after, g⟩ e (i64 (a % b)) := opS_rem hx hy ⟨(okDiv_s h).1, by have := (okDiv_s h).2.2; omega⟩
theorem g_neg {a : Int} (hx : opv e x = i64 a) (h : okI (0 - a) = true) : OpS P ⟨d, .unOp .neg T x, T2, pos, after, g⟩ e (i64 (0 - a)) := by
  have := opS_negw (P := P) (d := d) (T := T) (pos := pos) (after := after) (g := g) (T2 := T2) hx
  rwa [IntWalk.i64_in _ (okI_s h)] at this

/-! Bytes -/
theorem u8_inj {a b : UInt8} : ((a.toNat : Int) = (b.toNat : Int)) ↔ a = b := by
  constructor
  · intro h; exact UInt8.toNat_inj.1 (by omega)
  · intro h; rw [h]
theorem g_eq8 {a b : UInt8} (hx : opv e x = u8 a) (hy : opv e y = u8 b) : OpS P ⟨d, .binOp .eql T x y T', T2, pos, after, g⟩ e (B (decide (a = b))) := by
  have := opS_eqi (P := P) (d := d) (T := T) (pos := pos) (after := after) (g := g) (T2 := T2) (T' := T') hx hy
  rwa [show decide ((a.toNat : Int) = (b.toNat : Int)) = decide (a = b) from decide_eq_decide.2 u8_inj] at this
theorem g_ne8 {a b : UInt8} (hx : opv e x = u8 a) (hy : opv e y = u8 b) : OpS P ⟨d, .binOp .neq T x y T', T2, pos, after, g⟩ e (B (!decide (a = b))) := by
  have := opS_nei (P := P) (d := d) (T := T) (pos := pos) (after := after) (g := g) (T2 := T2) (T' := T') hx hy
  rwa [show decide ((a.toNat : Int) = (b.toNat : Int)) = decide (a = b) from decide_eq_decide.2 u8_inj] at this
theorem wrap_u8 (n : Int) : IntKind.u8.wrap n = n % 256 := by rw [IntKind.wrap_u8]
theorem g_add8 {a b : UInt8} (hx : opv e x = u8 a) (hy : opv e y = u8 b) : OpS P ⟨d, .binOp .add T x y T', T2, pos, after, g⟩ e (u8 (a + b)) := by
  have := opS_addw (P := P) (d := d) (T := T) (pos := pos) (after := after) (g := g) (T2 := T2) (T' := T') hx hy
  rwa [wrap_u8, show ((a.toNat : Int) + b.toNat) % 256 = ((a + b).toNat : Int) by rw [UInt8.toNat_add]; omega] at this
theorem g_sub8 {a b : UInt8} (hx : opv e x = u8 a) (hy : opv e y = u8 b) : OpS P ⟨d, .binOp .sub T x y T', T2, pos, after, g⟩ e (u8 (a - b)) := by
  have := opS_subw (P := P) (d := d) (T := T) (pos := pos) (after := after) (g := g) (T2 := T2) (T' := T') hx hy
  rwa [wrap_u8, show ((a.toNat : Int) - b.toNat) % 256 = ((a - b).toNat : Int) by rw [UInt8.toNat_sub]; have := a.toNat_lt; have := b.toNat_lt; omega] at this
/-- A number as a byte. -/
def toB (n : Int) : UInt8 := UInt8.ofNat (n % 256).toNat
theorem g_conv_to8 {k : IntKind} {n : Int} {src dst : TypeId} (hs : (P.underlying src).isSome = true) (hd : P.underlying dst = some (.int .u8)) (hx : opv e x = .v (.int k n)) :
    OpS P ⟨d, .convert src dst x, T, pos, after, g⟩ e (u8 (toB n)) := by
  have := opS_conv_int (P := P) (d := d) (T := T) (pos := pos) (after := after) (g := g) hs hd hx
  rwa [wrap_u8, show n % 256 = ((toB n).toNat : Int) by unfold toB; rw [UInt8.toNat_ofNat_of_lt' (by show (n % 256).toNat < 256; omega)]; omega] at this
theorem g_conv_64 {k : IntKind} {n : Int} {src dst : TypeId} (hs : (P.underlying src).isSome = true) (hd : P.underlying dst = some (.int .i64)) (hx : opv e x = .v (.int k n)) (h : okI n = true) :
    OpS P ⟨d, .convert src dst x, T, pos, after, g⟩ e (i64 n) := by
  have := opS_conv_int (P := P) (d := d) (T := T) (pos := pos) (after := after) (g := g) hs hd hx
  rwa [IntWalk.i64_in _ (okI_s h)] at this
theorem g_conv_32 {k : IntKind} {n : Int} {src dst : TypeId} (hs : (P.underlying src).isSome = true) (hd : P.underlying dst = some (.int .i32)) (hx : opv e x = .v (.int k n)) (h : okJ n = true) :
    OpS P ⟨d, .convert src dst x, T, pos, after, g⟩ e (.v (.int .i32 n)) := by
  have := opS_conv_int (P := P) (d := d) (T := T) (pos := pos) (after := after) (g := g) hs hd hx
  rwa [IntWalk.i32_in _ (okJ_s h)] at this

/-! Texts -/
theorem g_index_str {s : List UInt8} {q : IntKind} {n : Int} {c : UInt8} (hT : P.underlying T = some .string) (hx : opv e x = S s) (hy : opv e y = .v (.int q n)) (hg : okAt n s.length = true) (he : at_ s n = c) :
    OpS P ⟨d, .index T x y, T2, pos, after, g⟩ e (u8 c) := by
  obtain ⟨h1, h2⟩ := okAt_s hg
  obtain ⟨m, rfl⟩ := Int.eq_ofNat_of_zero_le h1
  exact opS_index_str hT hx hy rfl (by rw [← he]; exact getD_at (by omega))
theorem g_slice_str {s r : List UInt8} {q q' : IntKind} {a b : Int} (hT : P.underlying T = some .string) (hx : opv e x = S s) (hy : opv e y = .v (.int q a)) (hz : opv e z = .v (.int q' b)) (hg : okSub a b s.length = true) (he : sub s a b = r) :
    OpS P ⟨d, .slice T x (some y) (some z) none, T2, pos, after, g⟩ e (S r) := by
  obtain ⟨h1, h2, h3⟩ := okSub_s hg
  subst he
  exact opS_slice_str hT hx hy hz (Int.toNat_of_nonneg h1).symm (Int.toNat_of_nonneg (by omega)).symm (by omega) (by omega)
theorem g_from_str {s r : List UInt8} {q : IntKind} {a : Int} (hT : P.underlying T = some .string) (hx : opv e x = S s) (hy : opv e y = .v (.int q a)) (hg : okTo a s.length = true) (he : from_ s a = r) :
    OpS P ⟨d, .slice T x (some y) none none, T2, pos, after, g⟩ e (S r) := by
  obtain ⟨h1, h2⟩ := okTo_s hg
  subst he
  exact opS_slice_str_from hT hx hy (Int.toNat_of_nonneg h1).symm (by omega)
theorem g_to_str {s r : List UInt8} {q : IntKind} {b : Int} (hT : P.underlying T = some .string) (hx : opv e x = S s) (hz : opv e z = .v (.int q b)) (hg : okTo b s.length = true) (he : to_ s b = r) :
    OpS P ⟨d, .slice T x none (some z) none, T2, pos, after, g⟩ e (S r) := by
  obtain ⟨h1, h2⟩ := okTo_s hg
  subst he
  exact opS_slice_str_to hT hx hz (Int.toNat_of_nonneg h1).symm (by omega)
theorem g_cat {s r u : List UInt8} (hx : opv e x = S s) (hy : opv e y = S r) (h : okCat (s.length + r.length) = true) (he : s ++ r = u) : OpS P ⟨d, .binOp .add T x y T', T2, pos, after, g⟩ e (S u) := by
  subst he
  exact opS_cat hx hy (by have := okCat_s h; omega)

/-! Slices -/
section
variable {α : Type} [Inhabited α] {E : Enc α} {l m : List α} {t : Option Nat} {El : TypeId}
theorem g_indexAddr {q : IntKind} {n : Int} {a : α} (hT : P.underlying T = some (.slice El)) (hsz : cellsAt P El = some E.k) (hx : opv e x = slE E l t) (hy : opv e y = .v (.int q n)) (hg : okAt n l.length = true) (he : at_ l n = a) :
    OpS P ⟨d, .indexAddr T x y, T2, pos, after, g⟩ e (cpE E a) := by
  obtain ⟨h1, h2⟩ := okAt_s hg
  obtain ⟨k, rfl⟩ := Int.eq_ofNat_of_zero_le h1
  exact opS_indexAddr hT hsz hx hy rfl (by rw [← he]; exact getD_at (by omega))
omit [Inhabited α] in
theorem g_slice_sl {q q' : IntKind} {a b : Int} (hT : P.underlying T = some (.slice El)) (hsz : cellsAt P El = some E.k) (hx : opv e x = slE E l t) (hy : opv e y = .v (.int q a)) (hz : opv e z = .v (.int q' b)) (hg : okSub a b l.length = true) (he : sub l a b = m) :
    OpS P ⟨d, .slice T x (some y) (some z) none, T2, pos, after, g⟩ e (slE E m none) := by
  obtain ⟨h1, h2, h3⟩ := okSub_s hg
  subst he
  exact opS_slice_sl hT hsz hx hy hz (Int.toNat_of_nonneg h1).symm (Int.toNat_of_nonneg (by omega)).symm (by omega) (by omega)
omit [Inhabited α] in
theorem g_from_sl {q : IntKind} {a : Int} (hT : P.underlying T = some (.slice El)) (hsz : cellsAt P El = some E.k) (hx : opv e x = slE E l t) (hy : opv e y = .v (.int q a)) (hg : okTo a l.length = true) (he : from_ l a = m) :
    OpS P ⟨d, .slice T x (some y) none none, T2, pos, after, g⟩ e (slE E m none) := by
  obtain ⟨h1, h2⟩ := okTo_s hg
  subst he
  exact opS_slice_sl_from hT hsz hx hy (Int.toNat_of_nonneg h1).symm (by omega)
omit [Inhabited α] in
theorem g_to_sl {q : IntKind} {b : Int} (hT : P.underlying T = some (.slice El)) (hsz : cellsAt P El = some E.k) (hx : opv e x = slE E l t) (hz : opv e z = .v (.int q b)) (hg : okTo b l.length = true) (he : to_ l b = m) :
    OpS P ⟨d, .slice T x none (some z) none, T2, pos, after, g⟩ e (slE E m none) := by
  obtain ⟨h1, h2⟩ := okTo_s hg
  subst he
  exact opS_slice_sl_to hT hsz hx hz (Int.toNat_of_nonneg h1).symm (by omega)
omit [Inhabited α] in
theorem g_append {u : List α} {A : List Chunk} {t : Nat} {t2 : Option Nat} {T3 bytes : Nat} {D2 : TypeDesc} (i : Nat) (hT : P.underlying T = some (.slice El)) (hT2 : P.underlying T2 = some D2) (hD2 : intDesc D2 = false) (hE : elemInfo P El = some (E.k, bytes)) (hb : Nat.ble bytes 1000 = true)
    (hx : opv e x = slE E l (some t)) (hy : opv e y = slE E m t2) (hA : A[i]? = some (.tok t El)) (hg : okCat (l.length + m.length) = true) (he : l ++ m = u) :
    OpX P ⟨d, .call ⟨.builtin .append, #[x, y], #[T, T2]⟩, T3, pos, after, g⟩ e A (fun av A' => ∃ t', av = slE E u (some t') ∧ A' = A.set i (.tok t' El)) := by
  subst he
  have h1 := okCat_s hg
  have h2 := Nat.le_of_ble_eq_true hb
  have h3 : (l.length + m.length) * bytes ≤ 100000000000 * 1000 := Nat.mul_le_mul h1 h2
  exact opX_append i hT hT2 hD2 hE hx hy hA (by omega) (by omega)
theorem g_append_str {l m u : List UInt8} {A : List Chunk} {t : Nat} {T3 bytes : Nat} {D2 : TypeDesc} (i : Nat) (hT : P.underlying T = some (.slice El)) (hT2 : P.underlying T2 = some D2) (hD2 : intDesc D2 = false) (hE : elemInfo P El = some (1, bytes)) (hb : Nat.ble bytes 1000 = true)
    (hx : opv e x = slE Enc.byte l (some t)) (hy : opv e y = S m) (hA : A[i]? = some (.tok t El)) (hg : okCat (l.length + m.length) = true) (he : l ++ m = u) :
    OpX P ⟨d, .call ⟨.builtin .append, #[x, y], #[T, T2]⟩, T3, pos, after, g⟩ e A (fun av A' => ∃ t', av = slE Enc.byte u (some t') ∧ A' = A.set i (.tok t' El)) := by
  subst he
  have h1 := okCat_s hg
  have h2 := Nat.le_of_ble_eq_true hb
  have h3 : (l.length + m.length) * bytes ≤ 100000000000 * 1000 := Nat.mul_le_mul h1 h2
  exact opX_append_str i hT hT2 hD2 hE hx hy hA (by omega) (by omega)
omit [Inhabited α] in
theorem g_append_nil {A : List Chunk} {t2 : Option Nat} {T3 bytes : Nat} {D2 : TypeDesc} (hT : P.underlying T = some (.slice El)) (hT2 : P.underlying T2 = some D2) (hD2 : intDesc D2 = false) (hE : elemInfo P El = some (E.k, bytes)) (hb : Nat.ble bytes 1000 = true)
    (hx : opv e x = nilS) (hy : opv e y = slE E m t2) (hg : okCat m.length = true) :
    OpX P ⟨d, .call ⟨.builtin .append, #[x, y], #[T, T2]⟩, T3, pos, after, g⟩ e A (fun av A' => ∃ t', av = slE E m (some t') ∧ A' = .tok t' El :: A) := by
  have h1 := okCat_s hg
  have h2 := Nat.le_of_ble_eq_true hb
  have h3 : m.length * bytes ≤ 100000000000 * 1000 := Nat.mul_le_mul h1 h2
  exact opX_append_nil hT hT2 hD2 hE hx hy (by omega) (by omega)
end
theorem g_conv_str_bytes {s : List UInt8} {A : List Chunk} {src dst El T2 bytes : TypeId} (hs : P.underlying src = some .string) (hd : P.underlying dst = some (.slice El)) (hE : P.underlying El = some (.int .u8)) (hx : opv e x = S s) (hg : okCat s.length = true) :
    OpX P ⟨d, .convert src dst x, T2, pos, after, g⟩ e A (fun av A' => ∃ t, av = slE Enc.byte s (some t) ∧ A' = .tok t El :: A) := opX_conv_str_bytes (bytes := bytes) hs hd hE hx (by have := okCat_s hg; omega)

/-! Moves -/
theorem mv {v : Value} (hx : opv e x = .v v) : OpS P ⟨d, .move x, T, pos, after, g⟩ e (.v v) := opS_move hx
theorem asg {v : Value} (hx : opv e x = .v v) : OpS P ⟨d, .assign x, T, pos, after, g⟩ e (.v v) := opS_assign hx
theorem pickB {b : Bool} {z : Operand} {u v : Value} (hx : opv e x = B b) (hy : opv e y = .v u) (hz : opv e z = .v v) : OpS P ⟨d, .pick x y z, T, pos, after, g⟩ e (.v (bif b then u else v)) := by
  cases b
  · exact opS_pick_f hx rfl hz
  · exact opS_pick_t hx rfl hy
end

/-! ### Regions -/
section
variable {P : Program} {ro : Option Nat} {N : Nat} {Q : Post} {ops : Array Oper} {i : Nat} {rest : List Nat} {e : Env} {ds : List ADef} {A A' : List Chunk}
  {d : Nat} {op : Op} {T : TypeId} {pos : String} {after : Array Edge} {g : Option (Nat × Bool)} {av : AV}

theorem sS (ho : ops[i]? = some ⟨some d, op, T, pos, after, none⟩) (hd : Nat.blt d N = true) (hn : isDefer op = false) (h : OpS P ⟨some d, op, T, pos, after, none⟩ e av)
    (k : AR P ro N ops Q rest ⟨(d, av) :: e, ds, A⟩) : AR P ro N ops Q (i :: rest) ⟨e, ds, A⟩ := AR.run ho rfl (AO.ops hd hn h k)
theorem sR (ho : ops[i]? = some ⟨some d, op, T, pos, after, none⟩) (hd : Nat.blt d N = true) (hn : isDefer op = false) (h : OpR P ⟨some d, op, T, pos, after, none⟩ e A av A')
    (k : AR P ro N ops Q rest ⟨(d, av) :: e, ds, A'⟩) : AR P ro N ops Q (i :: rest) ⟨e, ds, A⟩ := AR.run ho rfl (AO.op hd hn h k)
theorem sX {R : AV → List Chunk → Prop} (ho : ops[i]? = some ⟨some d, op, T, pos, after, none⟩) (hd : Nat.blt d N = true) (hn : isDefer op = false) (h : OpX P ⟨some d, op, T, pos, after, none⟩ e A R)
    (k : ∀ av A', R av A' → AR P ro N ops Q rest ⟨(d, av) :: e, ds, A'⟩) : AR P ro N ops Q (i :: rest) ⟨e, ds, A⟩ := AR.run ho rfl (AO.opx hd hn h k)
theorem s0 (ho : ops[i]? = some ⟨none, op, T, pos, after, none⟩) (hn : isDefer op = false) (h : OpR P ⟨none, op, T, pos, after, none⟩ e A av A')
    (k : AR P ro N ops Q rest ⟨e, ds, A'⟩) : AR P ro N ops Q (i :: rest) ⟨e, ds, A⟩ := AR.run ho rfl (AO.op0 hn h k)
/-- A guarded operation that is carried out. -/
theorem gT {o : Oper} {j t : Nat} {want b : Bool} (hw : b = want) (ho : ops[i]? = some o) (hg : o.guard = some (j, want)) (hj : (ops[j]?).bind (·.dst) = some t) (hb : ev e t = .v (.bool b)) (ht : Nat.blt t N = true) (hd : o.dst.isSome = true)
    (k : AO P ro N ops Q rest o ⟨e, ds, A⟩) : AR P ro N ops Q (i :: rest) ⟨e, ds, A⟩ :=
  AR.guard ho hg hj hb ht (fun _ => k) (fun h => by subst hw; cases b <;> cases h) (fun h => by rw [h] at hd; cases hd)
/-- One that is not. -/
theorem gF {j t : Nat} {want b : Bool} (hw : b = !want) (ho : ops[i]? = some ⟨some d, op, T, pos, after, some (j, want)⟩) (hj : (ops[j]?).bind (·.dst) = some t) (hb : ev e t = .v (.bool b)) (ht : Nat.blt t N = true) (hd : Nat.blt d N = true)
    (k : AR P ro N ops Q rest ⟨(d, .v undef) :: e, ds, A⟩) : AR P ro N ops Q (i :: rest) ⟨e, ds, A⟩ :=
  AR.guard ho rfl hj hb ht (fun h => by subst h; cases b <;> cases hw) (fun _ d' h => by cases h; exact ⟨hd, k⟩) (fun h => by cases h)
theorem gU {j t : Nat} {want : Bool} (ho : ops[i]? = some ⟨some d, op, T, pos, after, some (j, want)⟩) (hj : (ops[j]?).bind (·.dst) = some t) (hb : ev e t = .v undef) (ht : Nat.blt t N = true) (hd : Nat.blt d N = true)
    (k : AR P ro N ops Q rest ⟨(d, .v undef) :: e, ds, A⟩) : AR P ro N ops Q (i :: rest) ⟨e, ds, A⟩ :=
  AR.guard_u ho rfl hj hb ht (fun d' h => by cases h; exact ⟨hd, k⟩) (fun h => by cases h)

/-- What is known of names: none of these is told in e. -/
def fresh (ks : List Nat) (e : Env) : Bool := e.all fun p => !(ks.contains p.1)

theorem ev_append_fresh {e : Env} : ∀ (pre : Env) (t : Nat), (∀ p ∈ pre, p.1 ≠ t) → ev (pre ++ e) t = ev e t
  | [], t, h => rfl
  | (j, a) :: r, t, h => by
    have hj : j ≠ t := h (j, a) (List.mem_cons_self ..)
    have hb : Nat.beq j t = false := by
      cases hb : Nat.beq j t with
      | false => rfl
      | true => exact absurd (Nat.eq_of_beq_eq_true hb) hj
    show (match Nat.beq j t with | true => a | false => ev (r ++ e) t) = _
    rw [hb]
    exact ev_append_fresh r t fun p hp => h p (List.mem_cons_of_mem _ hp)

/-- Two ways through guarded operations meet: what stands in d is told anew, all that was told since is forgotten. -/
theorem AR.meet (d : Nat) (av : AV) {i : Nat} {rest : List Nat} {l : List Nat}
    (k : (∀ (r : Env) (m : Nat) (x : AV), x = av → r.drop m = e → fresh ((r.take m).map Prod.fst) e = true → AR P ro N ops Q l ⟨(d, x) :: r, ds, A⟩) → AR P ro N ops Q (i :: rest) ⟨e, ds, A⟩)
    (h : AR P ro N ops Q l ⟨(d, av) :: e, ds, A⟩) : AR P ro N ops Q (i :: rest) ⟨e, ds, A⟩ :=
  k fun r m x hx hr hf => AR.weaken (fun F I w a hI hS => by
    subst hx
    refine ⟨I, Ext.refl _ _, hI, hS.size, fun t => ?_, hS.ds⟩
    have ht := hS.env t
    have hre : r = r.take m ++ e := by rw [← hr, List.take_append_drop]
    generalize r.take m = pre at hf hre
    subst hre
    simp only [ev] at ht ⊢
    cases hb : Nat.beq d t with
    | true => rw [hb] at ht; exact ht
    | false =>
      rw [hb] at ht
      simp only at ht ⊢
      by_cases hm : ∃ p ∈ pre, p.1 = t
      · obtain ⟨p, hp, rfl⟩ := hm
        have : ev e p.1 = .any := by
          clear ht hS hI h k hr
          induction e with
          | nil => rfl
          | cons q e ih =>
            obtain ⟨j, b⟩ := q
            simp only [fresh, List.all_cons, Bool.and_eq_true, Bool.not_eq_true'] at hf
            have hj : j ≠ p.1 := fun e => by
              have := hf.1
              rw [e] at this
              have h2 : (pre.map Prod.fst).contains p.1 = true := by simpa using ⟨p.2, hp⟩
              rw [h2] at this; cases this
            simp only [ev]
            have hb : Nat.beq j p.1 = false := by
              cases hb : Nat.beq j p.1 with
              | false => rfl
              | true => exact absurd (Nat.eq_of_beq_eq_true hb) hj
            rw [hb]
            exact ih hf.2
        rw [this]; exact .any _
      · rw [← ev_append_fresh pre t (fun p hp e => hm ⟨p, hp, e⟩)]; exact ht) h

/-- Chunks by their places. -/
def pickL : List Chunk → List Nat → Option (List Chunk × List Chunk)
  | A, [] => some ([], A)
  | A, i :: r => match A[i]? with
    | some c => match pickL (A.eraseIdx i) r with
      | some (C, D) => some (c :: C, D)
      | none => none
    | none => none
theorem pickL_perm : ∀ (is : List Nat) (A C D : List Chunk), pickL A is = some (C, D) → A.Perm (C ++ D)
  | [], A, C, D, h => by cases h; exact List.Perm.refl _
  | i :: r, A, C, D, h => by
    simp only [pickL] at h
    cases hA : A[i]? with
    | none => rw [hA] at h; cases h
    | some c =>
      rw [hA] at h
      simp only at h
      cases hp : pickL (A.eraseIdx i) r with
      | none => rw [hp] at h; cases h
      | some q =>
        obtain ⟨C', D'⟩ := q
        rw [hp] at h
        cases h
        exact (perm_at A i c hA).trans ((pickL_perm r _ _ _ hp).cons c)

/-- A call that touches the chunks at these places. -/
theorem AO.callAt {f : FuncId} {args : Array Operand} {argTypes : Array TypeId} {A1 B : List Chunk} {R : AE → List Chunk → Prop} {avs : List AV} (is : List Nat) (hd : Nat.blt d N = true)
    (hf : ∀ args w, (callFunc f args).run P w = .ok (.enter f args) w) (ha : args.toList.map (opv e) = avs) (h : ACalls P f avs A1 R) (p : pickL A is = some (A1, B))
    (hr : ∀ c A', ¬ R (.pan c) A') (k : ∀ av A', R (.ret av) A' → AR P ro N ops Q rest ⟨(d, av) :: e, ds, A' ++ B⟩) :
    AO P ro N ops Q rest ⟨some d, .call ⟨.value (.func f), args, argTypes⟩, T, pos, after, g⟩ ⟨e, ds, A⟩ :=
  AO.call B hd hf ha h (pickL_perm is _ _ _ p) k (fun c A' h => (hr c A' h).elim)

theorem WK.at {N : Nat} {e l : Env} {ds : List ADef} {A B C : List Chunk} (is : List Nat) (h : Env.le e l) (p : pickL A is = some (B, C)) : WK N ⟨e, ds, A⟩ ⟨l, ds, B⟩ := fun F I w a hI hS =>
  ⟨I, Ext.refl _ _, by
    have hp := pickL_perm is _ _ _ p
    have h1 := hI.perm (hp.append_right F)
    rw [List.append_assoc] at h1
    exact h1.sub (List.Sublist.append_left (List.sublist_append_right C F) B), ⟨hS.size, fun t => (h.ev t).rel (hS.env t), hS.ds⟩⟩
theorem Sub.at {A B C : List Chunk} (is : List Nat) (p : pickL A is = some (B, C)) : Sub B A := by
  obtain ⟨D, h1, h2⟩ := List.exists_perm_sublist (List.sublist_append_left B C) (pickL_perm is _ _ _ p).symm
  exact ⟨D, h1, h2⟩
end

/-- Pairs. -/
def Enc.prod {α β : Type} (E : Enc α) (F : Enc β) : Enc (α × β) := ⟨E.k + F.k, fun x => E.f x.1 ++ F.f x.2, by have := E.pos; omega, fun x => by simp [E.len, F.len], fun x c h => by
  rcases List.mem_append.1 h with h | h
  · exact E.cell _ _ h
  · exact F.cell _ _ h⟩
/-- Numbers of other kinds. -/
def Enc.num (k : IntKind) : Enc Int := ⟨1, fun n => [.v (.int k n)], by decide, fun _ => rfl, fun _ c h => by simp at h; subst h; rfl⟩
end Go.Av
