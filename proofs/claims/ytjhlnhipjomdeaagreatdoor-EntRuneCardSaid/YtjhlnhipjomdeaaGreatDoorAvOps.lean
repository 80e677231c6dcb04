/-
  One rule an operation: what it makes of values by content. No program is spoken of.
-/
import Derived.Test.YtjhlnhipjomdeaaGreatDoorAvWp
set_option linter.unusedVariables false
set_option linter.unusedSimpArgs false
namespace Go.Av
open Go.RowKit

/-! ### What slices hold, by kinds of elements -/

def isCell : AV → Bool
  | .v (.agg _) => false
  | .v (.tuple _) => false
  | .agg _ => false
  | .tup _ => false
  | .any => false
  | _ => true

/-- How an element lies in cells. -/
structure Enc (α : Type) where
  k : Nat
  f : α → List AV
  pos : 0 < k
  len : ∀ x, (f x).length = k
  cell : ∀ x, ∀ c ∈ f x, isCell c = true

def Enc.fl {α : Type} (E : Enc α) (l : List α) : List AV := l.flatMap E.f

@[simp] theorem Enc.fl_length {α : Type} (E : Enc α) (l : List α) : (E.fl l).length = l.length * E.k := by
  induction l with
  | nil => simp [Enc.fl]
  | cons x l ih =>
    have : E.fl (x :: l) = E.f x ++ E.fl l := by simp [Enc.fl]
    rw [this, List.length_append, E.len, ih, List.length_cons]
    rw [Nat.add_mul, Nat.one_mul, Nat.add_comm]
theorem Enc.fl_append {α : Type} (E : Enc α) (l m : List α) : E.fl (l ++ m) = E.fl l ++ E.fl m := by simp [Enc.fl]
@[simp] theorem Enc.fl_nil {α : Type} (E : Enc α) : E.fl [] = [] := rfl
theorem Enc.fl_cons {α : Type} (E : Enc α) (x : α) (l : List α) : E.fl (x :: l) = E.f x ++ E.fl l := by simp [Enc.fl]
theorem Enc.fl_take {α : Type} (E : Enc α) (l : List α) (n : Nat) : E.fl (l.take n) = (E.fl l).take (n * E.k) := by
  induction l generalizing n with
  | nil => simp
  | cons x l ih =>
    cases n with
    | zero => simp
    | succ n =>
      rw [List.take_succ_cons, E.fl_cons, E.fl_cons, ih, List.take_append, E.len, Nat.succ_mul]
      rw [List.take_of_length_le (show (E.f x).length ≤ n * E.k + E.k by rw [E.len]; omega), Nat.add_sub_cancel]
theorem Enc.fl_drop {α : Type} (E : Enc α) (l : List α) (n : Nat) : E.fl (l.drop n) = (E.fl l).drop (n * E.k) := by
  induction l generalizing n with
  | nil => simp
  | cons x l ih =>
    cases n with
    | zero => simp
    | succ n =>
      rw [List.drop_succ_cons, E.fl_cons, ih, List.drop_append, E.len, Nat.succ_mul]
      rw [List.drop_eq_nil_of_le (show (E.f x).length ≤ n * E.k + E.k by rw [E.len]; omega), Nat.add_sub_cancel, List.nil_append]
theorem Enc.fl_cell {α : Type} (E : Enc α) (l : List α) : ∀ c ∈ E.fl l, isCell c = true := by
  intro c hc
  obtain ⟨x, _, hx⟩ := List.mem_flatMap.1 hc
  exact E.cell x c hx

/-- A slice of such. -/
def slE {α : Type} (E : Enc α) (l : List α) (t : Option Nat) : AV := .sl E.k (E.fl l) t
/-- A pointer to an element that stands still. -/
def cpE {α : Type} (E : Enc α) (x : α) : AV := .cp (E.f x)

/-- A text. -/
abbrev S (l : List UInt8) : AV := .v (.string ⟨l.toArray⟩)
abbrev B (b : Bool) : AV := .v (.bool b)
abbrev i64 (n : Int) : AV := .v (.int .i64 n)
abbrev u8 (c : UInt8) : AV := .v (.int .u8 c.toNat)
abbrev nilS : AV := .v (.slice none 0 0)

def Enc.byte : Enc UInt8 := ⟨1, fun c => [u8 c], by decide, fun _ => rfl, fun _ c h => by simp at h; subst h; rfl⟩
def Enc.str : Enc (List UInt8) := ⟨1, fun s => [S s], by decide, fun _ => rfl, fun _ c h => by simp at h; subst h; rfl⟩
def Enc.int : Enc Int := ⟨1, fun n => [i64 n], by decide, fun _ => rfl, fun _ c h => by simp at h; subst h; rfl⟩
def Enc.bool : Enc Bool := ⟨1, fun b => [B b], by decide, fun _ => rfl, fun _ c h => by simp at h; subst h; rfl⟩
/-- Slices within a slice. -/
def Enc.sl {α : Type} (E : Enc α) : Enc (List α) := ⟨1, fun l => [slE E l none], by decide, fun _ => rfl, fun _ c h => by simp at h; subst h; rfl⟩

section
variable {P : Program} {e : Env} {d : Option Nat} {T : TypeId} {pos : String} {after : Array Edge} {g : Option (Nat × Bool)} {x y : Operand} {av : AV}

theorem rel_v {I : Info} {w : World} {y z : Value} (h : Rel I w (.v y) z) : z = y := by cases h; rfl

theorem opS_move (hx : opv e x = av) : OpS P ⟨d, .move x, T, pos, after, g⟩ e av := fun I w ρ hρ => ⟨ρ x, hx ▸ hρ x, fun _ _ _ => rfl⟩
theorem opS_assign (hx : opv e x = av) : OpS P ⟨d, .assign x, T, pos, after, g⟩ e av := fun I w ρ hρ => ⟨ρ x, hx ▸ hρ x, fun _ _ _ => rfl⟩

/-- Of two values that stand for themselves. -/
theorem opS_bin {op : BinOp} {T' : TypeId} {u v r : Value} (hx : opv e x = .v u) (hy : opv e y = .v v) (hg : ∀ w, (eqGuard op T x y u v).run P w = .ok () w)
    (h : ∀ w, (binOp op T u v).run P w = .ok r w) {T2 : TypeId} : OpS P ⟨d, .binOp op T x y T', T2, pos, after, g⟩ e (.v r) := fun I w ρ hρ => by
  have h1 := rel_v (hx ▸ hρ x)
  have h2 := rel_v (hy ▸ hρ y)
  exact ⟨r, .v r, fun w' _ _ => by simp only [execOp, h1, h2, Sem.run_bind, hg, h, Result.andThen_ok, Sem.run_pure]⟩

theorem eqGuard_int {op : BinOp} {k : IntKind} {a b : Int} (w : World) : (eqGuard op T x y (.int k a) (.int k b)).run P w = .ok () w := by
  cases op <;> rfl
theorem eqGuard_str {op : BinOp} {a b : ByteArray} (w : World) : (eqGuard op T x y (.string a) (.string b)).run P w = .ok () w := by
  cases op <;> rfl
theorem eqGuard_bool {op : BinOp} {a b : Bool} (w : World) : (eqGuard op T x y (.bool a) (.bool b)).run P w = .ok () w := by
  cases op <;> rfl

section ints
variable {k : IntKind} {a b : Int} {T1 T2 T' : TypeId} (hx : opv e x = .v (.int k a)) (hy : opv e y = .v (.int k b))
include hx hy
theorem opS_addw : OpS P ⟨d, .binOp .add T x y T', T2, pos, after, g⟩ e (.v (.int k (k.wrap (a + b)))) := opS_bin hx hy (fun w => eqGuard_int w) (fun w => by simp [binOp, Op.intArith])
theorem opS_subw : OpS P ⟨d, .binOp .sub T x y T', T2, pos, after, g⟩ e (.v (.int k (k.wrap (a - b)))) := opS_bin hx hy (fun w => eqGuard_int w) (fun w => by simp [binOp, Op.intArith])
theorem opS_mulw : OpS P ⟨d, .binOp .mul T x y T', T2, pos, after, g⟩ e (.v (.int k (k.wrap (a * b)))) := opS_bin hx hy (fun w => eqGuard_int w) (fun w => by simp [binOp, Op.intArith])
theorem opS_lt : OpS P ⟨d, .binOp .lss T x y T', T2, pos, after, g⟩ e (B (decide (a < b))) := opS_bin hx hy (fun w => eqGuard_int w) (fun w => by simp [binOp, Op.intCmp])
theorem opS_le : OpS P ⟨d, .binOp .leq T x y T', T2, pos, after, g⟩ e (B (decide (a ≤ b))) := opS_bin hx hy (fun w => eqGuard_int w) (fun w => by simp [binOp, Op.intCmp])
theorem opS_gt : OpS P ⟨d, .binOp .gtr T x y T', T2, pos, after, g⟩ e (B (decide (b < a))) := opS_bin hx hy (fun w => eqGuard_int w) (fun w => by simp [binOp, Op.intCmp])
theorem opS_ge : OpS P ⟨d, .binOp .geq T x y T', T2, pos, after, g⟩ e (B (decide (b ≤ a))) := opS_bin hx hy (fun w => eqGuard_int w) (fun w => by simp [binOp, Op.intCmp])
theorem opS_eqi : OpS P ⟨d, .binOp .eql T x y T', T2, pos, after, g⟩ e (B (decide (a = b))) := opS_bin hx hy (fun w => eqGuard_int w) (fun w => by simp [binOp, Op.intCmp]; rfl)
theorem opS_nei : OpS P ⟨d, .binOp .neq T x y T', T2, pos, after, g⟩ e (B (!decide (a = b))) := opS_bin hx hy (fun w => eqGuard_int w) (fun w => by simp [binOp, Op.intCmp]; rfl)
theorem opS_quow (hb : b ≠ 0) : OpS P ⟨d, .binOp .quo T x y T', T2, pos, after, g⟩ e (.v (.int k (k.wrap (a.tdiv b)))) := opS_bin hx hy (fun w => eqGuard_int w) (fun w => by simp [binOp, Op.intDiv, hb])
theorem opS_remw (hb : b ≠ 0) : OpS P ⟨d, .binOp .rem T x y T', T2, pos, after, g⟩ e (.v (.int k (a.tmod b))) := opS_bin hx hy (fun w => eqGuard_int w) (fun w => by simp [binOp, Op.intDiv, hb])
theorem opS_and : OpS P ⟨d, .binOp .and T x y T', T2, pos, after, g⟩ e (.v (.int k (k.wrap (BitVec.ofInt k.bits a &&& BitVec.ofInt k.bits b).toNat))) := opS_bin hx hy (fun w => eqGuard_int w) (fun w => by simp [binOp, Op.intBits])
theorem opS_or : OpS P ⟨d, .binOp .or T x y T', T2, pos, after, g⟩ e (.v (.int k (k.wrap (BitVec.ofInt k.bits a ||| BitVec.ofInt k.bits b).toNat))) := opS_bin hx hy (fun w => eqGuard_int w) (fun w => by simp [binOp, Op.intBits])
theorem opS_xor : OpS P ⟨d, .binOp .xor T x y T', T2, pos, after, g⟩ e (.v (.int k (k.wrap (BitVec.ofInt k.bits a ^^^ BitVec.ofInt k.bits b).toNat))) := opS_bin hx hy (fun w => eqGuard_int w) (fun w => by simp [binOp, Op.intBits])
end ints

section
variable {a b : Int} {T2 T' : TypeId} (hx : opv e x = i64 a) (hy : opv e y = i64 b)
include hx hy
/-- Sums that fit. -/
theorem opS_add (h : -9223372036854775808 ≤ a + b ∧ a + b ≤ 9223372036854775807) : OpS P ⟨d, .binOp .add T x y T', T2, pos, after, g⟩ e (i64 (a + b)) := by
  have := opS_addw (P := P) (d := d) (T := T) (pos := pos) (after := after) (g := g) (T2 := T2) (T' := T') hx hy
  rwa [IntWalk.i64_in _ h] at this
theorem opS_sub (h : -9223372036854775808 ≤ a - b ∧ a - b ≤ 9223372036854775807) : OpS P ⟨d, .binOp .sub T x y T', T2, pos, after, g⟩ e (i64 (a - b)) := by
  have := opS_subw (P := P) (d := d) (T := T) (pos := pos) (after := after) (g := g) (T2 := T2) (T' := T') hx hy
  rwa [IntWalk.i64_in _ h] at this
theorem opS_mul (h : -9223372036854775808 ≤ a * b ∧ a * b ≤ 9223372036854775807) : OpS P ⟨d, .binOp .mul T x y T', T2, pos, after, g⟩ e (i64 (a * b)) := by
  have := opS_mulw (P := P) (d := d) (T := T) (pos := pos) (after := after) (g := g) (T2 := T2) (T' := T') hx hy
  rwa [IntWalk.i64_in _ h] at this
theorem opS_quo (h : 0 ≤ a ∧ a ≤ 9223372036854775807 ∧ 1 ≤ b) : OpS P ⟨d, .binOp .quo T x y T', T2, pos, after, g⟩ e (i64 (a / b)) := by
  have := opS_quow (P := P) (d := d) (T := T) (pos := pos) (after := after) (g := g) (T2 := T2) (T' := T') hx hy (by omega)
  rwa [IntWalk.i64_quo _ _ h] at this
theorem opS_rem (h : 0 ≤ a ∧ b ≠ 0) : OpS P ⟨d, .binOp .rem T x y T', T2, pos, after, g⟩ e (i64 (a % b)) := by
  have := opS_remw (P := P) (d := d) (T := T) (pos := pos) (after := after) (g := g) (T2 := T2) (T' := T') hx hy h.2
  rwa [IntWalk.rem_in _ _ h.1] at this
end

/-- Shifts by a count that is not less than nought. -/
theorem opS_shl {k k' : IntKind} {a b : Int} {T2 T' : TypeId} (hx : opv e x = .v (.int k a)) (hy : opv e y = .v (.int k' b)) (hb : 0 ≤ b) :
    OpS P ⟨d, .binOp .shl T x y T', T2, pos, after, g⟩ e (.v (.int k (k.wrap (a * 2 ^ min b.toNat k.bits)))) :=
  opS_bin hx hy (fun w => rfl) (fun w => by simp only [binOp, Op.shift, if_neg (show ¬ b < 0 by omega), Sem.run_pure])
theorem opS_shr {k k' : IntKind} {a b : Int} {T2 T' : TypeId} (hx : opv e x = .v (.int k a)) (hy : opv e y = .v (.int k' b)) (hb : 0 ≤ b) :
    OpS P ⟨d, .binOp .shr T x y T', T2, pos, after, g⟩ e (.v (.int k (a.fdiv (2 ^ min b.toNat k.bits)))) :=
  opS_bin hx hy (fun w => rfl) (fun w => by simp only [binOp, Op.shift, if_neg (show ¬ b < 0 by omega), Sem.run_pure])

theorem toList_loop (b : ByteArray) : ∀ (n i : Nat) (r : List UInt8), b.size - i = n → ByteArray.toList.loop b i r = r.reverse ++ b.data.toList.drop i
  | 0, i, r, h => by
    have hs : b.data.toList.length = b.size := rfl
    rw [ByteArray.toList.loop, if_neg (by omega), List.drop_eq_nil_of_le (by omega), List.append_nil]
  | n + 1, i, r, h => by
    have hi : i < b.size := by omega
    have hs : b.data.toList.length = b.size := rfl
    rw [ByteArray.toList.loop, if_pos hi, toList_loop b n (i + 1) _ (by omega), List.drop_eq_getElem_cons (show i < b.data.toList.length by omega)]
    have : b.get! i = b.data.toList[i] := by
      cases b with
      | mk d =>
        have : i < d.size := by simpa [ByteArray.size] using hi
        simp [ByteArray.get!, Array.getElem!_eq_getD, Array.getD_eq_getD_getElem?, this]
    simp [this]
theorem toList_mk (l : List UInt8) : (⟨l.toArray⟩ : ByteArray).toList = l := by
  unfold ByteArray.toList
  rw [toList_loop _ _ 0 [] rfl]
  simp

theorem beq_decide (s r : List UInt8) : (s == r) = decide (s = r) := by rw [Bool.eq_iff_iff]; simp

section strs
variable {s r : List UInt8} {T2 T' : TypeId} (hx : opv e x = S s) (hy : opv e y = S r)
include hx hy
theorem opS_eqs : OpS P ⟨d, .binOp .eql T x y T', T2, pos, after, g⟩ e (B (decide (s = r))) := opS_bin hx hy (fun w => eqGuard_str w) (fun w => by simp [binOp, Op.stringOp, toList_mk, beq_decide])
theorem opS_nes : OpS P ⟨d, .binOp .neq T x y T', T2, pos, after, g⟩ e (B (!decide (s = r))) := opS_bin hx hy (fun w => eqGuard_str w) (fun w => by simp [binOp, Op.stringOp, toList_mk, beq_decide])
theorem opS_cat (h : s.length + r.length ≤ 9223372036854775807) : OpS P ⟨d, .binOp .add T x y T', T2, pos, after, g⟩ e (S (s ++ r)) :=
  opS_bin hx hy (fun w => eqGuard_str w) (fun w => by
    have h1 : (⟨s.toArray⟩ : ByteArray) ++ ⟨r.toArray⟩ = ⟨(s ++ r).toArray⟩ := by apply ByteArray.ext; simp
    have hs : (⟨s.toArray⟩ : ByteArray).size = s.length := by simp [ByteArray.size]
    have hr : (⟨r.toArray⟩ : ByteArray).size = r.length := by simp [ByteArray.size]
    simp only [binOp, Op.stringOp, hs, hr, h1]
    have hm : IntKind.i64.max = 9223372036854775807 := by decide
    rw [if_neg (show ¬ (((s.length + r.length : Nat) : Int) > IntKind.i64.max) by omega)]
    rfl)
end strs

theorem opS_not {b : Bool} {T2 : TypeId} (hx : opv e x = B b) : OpS P ⟨d, .unOp .not T x, T2, pos, after, g⟩ e (B (!b)) := fun I w ρ hρ => by
  have h1 := rel_v (hx ▸ hρ x)
  exact ⟨_, .v _, fun w' _ _ => by simp [execOp, h1, Op.unary]⟩
theorem opS_negw {k : IntKind} {n : Int} {T2 : TypeId} (hx : opv e x = .v (.int k n)) : OpS P ⟨d, .unOp .neg T x, T2, pos, after, g⟩ e (.v (.int k (k.wrap (0 - n)))) := fun I w ρ hρ => by
  have h1 := rel_v (hx ▸ hρ x)
  exact ⟨_, .v _, fun w' _ _ => by simp [execOp, h1, Op.unary, Op.intArith]⟩

theorem run_eqIn_bool (hT : P.underlying T = some .bool) (n : Nat) (a b : Bool) (w : World) : (Op.equalIn (n + 1) T (.bool a) (.bool b)).run P w = .ok (a == b) w := by
  simp only [Op.equalIn, Sem.run_bind, run_underlying hT, Result.andThen_ok, Sem.run_pure]
theorem run_eq_bool (hT : P.underlying T = some .bool) (a b : Bool) (w : World) : (Op.equal T (.bool a) (.bool b)).run P w = .ok (a == b) w := run_eqIn_bool hT 9999 a b w
theorem opS_eqb {a b : Bool} {T2 T' : TypeId} (hT : P.underlying T = some .bool) (hx : opv e x = B a) (hy : opv e y = B b) : OpS P ⟨d, .binOp .eql T x y T', T2, pos, after, g⟩ e (B (a == b)) :=
  opS_bin hx hy (fun w => eqGuard_bool w) (fun w => by
    show (do pure (Value.bool (← Op.equal T (.bool a) (.bool b))) : Sem Value).run P w = _
    simp only [Sem.run_bind, run_eq_bool hT, Result.andThen_ok, Sem.run_pure])
theorem opS_neb {a b : Bool} {T2 T' : TypeId} (hT : P.underlying T = some .bool) (hx : opv e x = B a) (hy : opv e y = B b) : OpS P ⟨d, .binOp .neq T x y T', T2, pos, after, g⟩ e (B (!(a == b))) :=
  opS_bin hx hy (fun w => eqGuard_bool w) (fun w => by
    show (do pure (Value.bool (!(← Op.equal T (.bool a) (.bool b)))) : Sem Value).run P w = _
    simp only [Sem.run_bind, run_eq_bool hT, Result.andThen_ok, Sem.run_pure])

theorem opS_pick_t {z : Operand} {b : Bool} (hx : opv e x = B b) (hb : b = true) (hy : opv e y = av) : OpS P ⟨d, .pick x y z, T, pos, after, g⟩ e av := fun I w ρ hρ => by
  have h1 := rel_v (hx ▸ hρ x)
  exact ⟨ρ y, hy ▸ hρ y, fun w' _ _ => by simp [execOp, h1, asBool, hb]⟩
theorem opS_pick_f {z : Operand} {b : Bool} (hx : opv e x = B b) (hb : b = false) (hz : opv e z = av) : OpS P ⟨d, .pick x y z, T, pos, after, g⟩ e av := fun I w ρ hρ => by
  have h1 := rel_v (hx ▸ hρ x)
  exact ⟨ρ z, hz ▸ hρ z, fun w' _ _ => by simp [execOp, h1, asBool, hb]⟩

/-- A number of one kind as one of another. -/
theorem opS_conv_int {k k' : IntKind} {n : Int} {src dst : TypeId} (hs : (P.underlying src).isSome = true) (hd : P.underlying dst = some (.int k)) (hx : opv e x = .v (.int k' n)) :
    OpS P ⟨d, .convert src dst x, T, pos, after, g⟩ e (.v (.int k (k.wrap n))) := fun I w ρ hρ => by
  have h1 := rel_v (hx ▸ hρ x)
  obtain ⟨ds, hds⟩ := Option.isSome_iff_exists.1 hs
  exact ⟨_, .v _, fun w' _ _ => by simp [execOp, h1, convert, run_underlying hds, run_underlying hd, Conv.intToInt]⟩
theorem opS_conv_str {s : ByteArray} {src dst : TypeId} (hs : P.underlying src = some .string) (hd : P.underlying dst = some .string) (hx : opv e x = .v (.string s)) :
    OpS P ⟨d, .convert src dst x, T, pos, after, g⟩ e (.v (.string s)) := fun I w ρ hρ => by
  have h1 := rel_v (hx ▸ hρ x)
  exact ⟨_, .v _, fun w' _ _ => by simp [execOp, h1, convert, run_underlying hs, run_underlying hd]⟩

theorem opS_extract {n : Nat} {vs : List AV} (hx : opv e x = .tup vs) (hn : vs[n]? = some av) : OpS P ⟨d, .extract x n, T, pos, after, g⟩ e av := fun I w ρ hρ => by
  have h1 := hx ▸ hρ x
  generalize e1 : ρ x = v at h1
  cases h1 with
  | tup cs xs hl hr =>
    have hlt : n < vs.length := (List.getElem?_eq_some_iff.1 hn).1
    have hv : vs[n] = av := (List.getElem?_eq_some_iff.1 hn).2
    refine ⟨xs.getD n undef, hv ▸ hr n hlt, fun w' _ _ => ?_⟩
    have hx' : xs[n]? = some (xs.getD n undef) := by
      have : n < xs.length := by rw [hl]; exact hlt
      simp [List.getD, this]
    simp only [execOp, e1, Instr.extract, List.getElem?_toArray, hx', Sem.run_bind, Sem.run_pure, Result.andThen_ok]

end
end Go.Av
