/-
  Values by content, and a state of chunks, over the model's worlds: what the later texts reason with. Nothing here speaks of a program.
-/
import Derived.WalkKit
import Derived.WalkSpells
import Derived.WalkLawsBesides
import Derived.OrdersIn
import Derived.OrdersHeld
import Derived.RangeFuncIn
import Derived.DefersIn
set_option linter.unusedVariables false
set_option linter.unusedSimpArgs false
namespace Go.Av

/-- A value by its content. -/
inductive AV where
  | v (x : Value)
  | sl (k : Nat) (cs : List AV) (t : Option Nat)
  | cp (cs : List AV)
  | pt (o off : Nat)
  | vw (o off len cap : Nat)
  | agg (cs : List AV)
  | tup (vs : List AV)
  | ifc (t : TypeId) (x : AV)
  | fn (f : Fn) (first captured : List AV)
  | any
  | anyk (k : IntKind)
  | anyi
  | mp (es : List (List UInt8 × Value))
  | rp (x : AV)
  | mk (t len : Nat)
  deriving Inhabited

/-- What is known of blocks: how many of a block's first cells stand still (none: all of it); where objects lie; where rows lie that may grow. -/
structure Info where
  ext : Nat → Option Nat
  obj : Nat → Option Nat
  tok : Nat → Option (Option Nat × Nat × Nat)

def Stab (I : Info) (b n : Nat) : Prop := ∀ m, I.ext b = some m → n ≤ m

theorem Stab.le {I : Info} {b n m : Nat} (h : Stab I b n) (hm : m ≤ n) : Stab I b m := fun k hk => Nat.le_trans hm (h k hk)

inductive Rel (I : Info) (w : World) : AV → Value → Prop where
  | v (x : Value) : Rel I w (.v x) x
  | any (x : Value) : Rel I w .any x
  | anyk (k : IntKind) (n : Int) : Rel I w (.anyk k) (.int k n)
  | anyi0 : Rel I w .anyi .nilIface
  | anyi1 (t : TypeId) (v : Value) : Rel I w .anyi (.iface t v)
  | mp (es : List (List UInt8 × Value)) (r : Nat) (ents : Array MapEntry) (c : Nat) (h : w.heap[r]? = some (.map ents c)) (hst : I.ext r = none)
      (he : ents.toList.map (fun e => (e.key, e.val)) = es.map fun p => (.string ⟨p.1.toArray⟩, p.2)) : Rel I w (.mp es) (.map (some r))
  | rp (x : AV) (a : Option Addr) (len cap : Nat) (p : Option Addr) (h : Rel I w x (.slice a len cap)) (hp : p = a ∨ cap = 0) : Rel I w (.rp x) (.pointer p)
  | mk (t len b c : Nat) (h : I.tok t = some (some b, 0, c)) : Rel I w (.mk t len) (.slice (some ⟨b, 0, none⟩) len c)
  | slz (k : Nat) (a : Option Addr) (cap : Nat) : Rel I w (.sl k [] none) (.slice a 0 cap)
  | slnil (k t : Nat) (ht : I.tok t = some (none, 0, 0)) : Rel I w (.sl k [] (some t)) (.slice none 0 0)
  | sl (k : Nat) (cs : List AV) (t : Option Nat) (b off len cap : Nat) (xs : Nat → Value) (hk : 0 < k) (hlen : len * k = cs.length) (hcap : len ≤ cap)
      (hst : Stab I b (off + cs.length)) (hx : ∀ j, j < cs.length → w.cell? ⟨b, off + j, none⟩ = some (xs j))
      (hr : ∀ j (h : j < cs.length), Rel I w cs[j] (xs j))
      (ht : ∀ t', t = some t' → I.tok t' = some (some b, cs.length, cap * k) ∧ off = 0) : Rel I w (.sl k cs t) (.slice (some ⟨b, off, none⟩) len cap)
  | cp (cs : List AV) (b off : Nat) (xs : Nat → Value) (hst : Stab I b (off + cs.length)) (hx : ∀ j, j < cs.length → w.cell? ⟨b, off + j, none⟩ = some (xs j))
      (hr : ∀ j (h : j < cs.length), Rel I w cs[j] (xs j)) : Rel I w (.cp cs) (.pointer (some ⟨b, off, none⟩))
  | pt (o off b : Nat) (h : I.obj o = some b) : Rel I w (.pt o off) (.pointer (some ⟨b, off, none⟩))
  | vw (o off len cap b : Nat) (h : I.obj o = some b) : Rel I w (.vw o off len cap) (.slice (some ⟨b, off, none⟩) len cap)
  | agg (cs : List AV) (xs : List Value) (hl : xs.length = cs.length) (hr : ∀ j (h : j < cs.length), Rel I w cs[j] (xs.getD j undef)) : Rel I w (.agg cs) (.agg xs.toArray)
  | tup (cs : List AV) (xs : List Value) (hl : xs.length = cs.length) (hr : ∀ j (h : j < cs.length), Rel I w cs[j] (xs.getD j undef)) : Rel I w (.tup cs) (.tuple xs.toArray)
  | ifc (t : TypeId) (x : AV) (y : Value) (h : Rel I w x y) : Rel I w (.ifc t x) (.iface t y)
  | fn (f : Fn) (as bs : List AV) (xs ys : List Value) (hl : xs.length = as.length) (hr : ∀ j (h : j < as.length), Rel I w as[j] (xs.getD j undef))
      (hl' : ys.length = bs.length) (hr' : ∀ j (h : j < bs.length), Rel I w bs[j] (ys.getD j undef)) : Rel I w (.fn f as bs) (.func f xs.toArray ys.toArray)

/-- What kind of elements a block was made for. -/
def ElemAt (w : World) (b : Nat) (E : TypeId) : Prop := ∃ c fz, w.heap[b]? = some (.cells c E fz)

theorem ElemAt.freeze {w : World} {b : Nat} {E : TypeId} (h : ElemAt w b E) (a : Addr) (n : Nat) : ElemAt (w.freeze a n) b E := by
  obtain ⟨c, fz, h⟩ := h
  unfold World.freeze
  split
  · exact ⟨c, fz, h⟩
  · by_cases e : a.block = b
    · exact ⟨c, _, by simp only [Array.getElem?_modify, e, if_true, h, Option.map_some]; rfl⟩
    · exact ⟨c, fz, by simp only [Array.getElem?_modify]; rw [if_neg e]; exact h⟩
theorem ElemAt.setCell {w : World} {b : Nat} {E : TypeId} (h : ElemAt w b E) (a : Addr) (u : Value) : ElemAt (w.setCell a u) b E := by
  obtain ⟨c, fz, h⟩ := h
  by_cases e : a.block = b
  · exact ⟨_, fz, by simp only [World.setCell, Array.getElem?_modify, e, if_true, h, Option.map_some]; rfl⟩
  · exact ⟨c, fz, by simp only [World.setCell, Array.getElem?_modify]; rw [if_neg e]; exact h⟩
theorem ElemAt.alloc {w : World} {b : Nat} {E : TypeId} (h : ElemAt w b E) (o : Obj) : ElemAt (w.alloc o) b E := by
  obtain ⟨c, fz, h⟩ := h
  refine ⟨c, fz, ?_⟩
  have hlt := (Array.getElem?_eq_some_iff.1 h).1
  show (w.heap.push o)[b]? = _
  rw [Array.getElem?_push, if_neg (by omega)]
  exact h

/-- One state behind another: what stood still stands. -/
structure Ext (I : Info) (w : World) (I' : Info) (w' : World) : Prop where
  os : w'.os = w.os
  tape : w'.tape = w.tape
  out : w'.output = w.output
  size : w.heap.size ≤ w'.heap.size
  blk : ∀ b, I.ext b = none → w'.heap[b]? = w.heap[b]? ∧ I'.ext b = none
  cell : ∀ b j, Stab I b (j + 1) → w'.cell? ⟨b, j, none⟩ = w.cell? ⟨b, j, none⟩
  ext : ∀ b n, Stab I b n → Stab I' b n
  obj : ∀ o b, I.obj o = some b → I'.obj o = some b
  tok : ∀ t x, I.tok t = some x → I'.tok t = some x
  elem : ∀ b E, ElemAt w b E → ElemAt w' b E

theorem Ext.refl (I : Info) (w : World) : Ext I w I w :=
  ⟨rfl, rfl, rfl, Nat.le_refl _, fun _ h => ⟨rfl, h⟩, fun _ _ _ => rfl, fun _ _ h => h, fun _ _ h => h, fun _ _ h => h, fun _ _ h => h⟩

theorem Ext.trans {I I' I'' : Info} {w w' w'' : World} (h : Ext I w I' w') (g : Ext I' w' I'' w'') : Ext I w I'' w'' :=
  ⟨g.os.trans h.os, g.tape.trans h.tape, g.out.trans h.out, Nat.le_trans h.size g.size,
    fun b hb => ⟨((g.blk b (h.blk b hb).2).1).trans (h.blk b hb).1, (g.blk b (h.blk b hb).2).2⟩,
    fun b j hj => (g.cell b j (h.ext b _ hj)).trans (h.cell b j hj), fun b n hn => g.ext b n (h.ext b n hn),
    fun o b hb => g.obj o b (h.obj o b hb), fun t x hx => g.tok t x (h.tok t x hx), fun b E hE => g.elem b E (h.elem b E hE)⟩

theorem Rel.mono {I I' : Info} {w w' : World} (E : Ext I w I' w') {a : AV} {x : Value} (h : Rel I w a x) : Rel I' w' a x := by
  induction h with
  | v x => exact .v x
  | any x => exact .any x
  | anyk k n => exact .anyk k n
  | anyi0 => exact .anyi0
  | anyi1 t v => exact .anyi1 t v
  | mp es r ents c h hst he => exact .mp es r ents c (((E.blk _ hst).1).trans h) (E.blk _ hst).2 he
  | rp x a len cap p h hp ih => exact .rp x a len cap p ih hp
  | mk t len b c h => exact .mk t len b c (E.tok _ _ h)
  | slz k a cap => exact .slz k a cap
  | slnil k t ht => exact .slnil k t (E.tok _ _ ht)
  | sl k cs t b off len cap xs hk hlen hcap hst hx hr ht ih =>
    exact .sl k cs t b off len cap xs hk hlen hcap (E.ext _ _ hst) (fun j hj => (E.cell _ _ (hst.le (by omega))).trans (hx j hj)) ih
      (fun t' e => ⟨E.tok _ _ (ht t' e).1, (ht t' e).2⟩)
  | cp cs b off xs hst hx hr ih => exact .cp cs b off xs (E.ext _ _ hst) (fun j hj => (E.cell _ _ (hst.le (by omega))).trans (hx j hj)) ih
  | pt o off b h => exact .pt o off b (E.obj _ _ h)
  | vw o off len cap b h => exact .vw o off len cap b (E.obj _ _ h)
  | agg cs xs hl hr ih => exact .agg cs xs hl ih
  | tup cs xs hl hr ih => exact .tup cs xs hl ih
  | ifc t x y h ih => exact .ifc t x y ih
  | fn f as bs xs ys hl hr hl' hr' ih ih' => exact .fn f as bs xs ys hl ih hl' ih'

/-- Lists of values, related one by one. -/
def RelL (I : Info) (w : World) (cs : List AV) (xs : List Value) : Prop := xs.length = cs.length ∧ ∀ j (h : j < cs.length), Rel I w cs[j] (xs.getD j undef)

theorem RelL.mono {I I' : Info} {w w' : World} (E : Ext I w I' w') {cs : List AV} {xs : List Value} (h : RelL I w cs xs) : RelL I' w' cs xs := ⟨h.1, fun j hj => (h.2 j hj).mono E⟩
theorem RelL.nil {I : Info} {w : World} : RelL I w [] [] := ⟨rfl, fun j h => absurd h (Nat.not_lt_zero _)⟩
theorem RelL.cons {I : Info} {w : World} {c : AV} {x : Value} {cs : List AV} {xs : List Value} (h : Rel I w c x) (g : RelL I w cs xs) : RelL I w (c :: cs) (x :: xs) :=
  ⟨by simp [g.1], fun j hj => by
    cases j with
    | zero => exact h
    | succ j => exact g.2 j (by simpa using hj)⟩
theorem RelL.head {I : Info} {w : World} {c : AV} {x : Value} {cs : List AV} {xs : List Value} (h : RelL I w (c :: cs) (x :: xs)) : Rel I w c x := h.2 0 (by simp)
theorem RelL.tail {I : Info} {w : World} {c : AV} {x : Value} {cs : List AV} {xs : List Value} (h : RelL I w (c :: cs) (x :: xs)) : RelL I w cs xs :=
  ⟨by simpa using h.1, fun j hj => h.2 (j + 1) (by simpa using hj)⟩
theorem RelL.out_nil {I : Info} {w : World} {xs : List Value} (h : RelL I w [] xs) : xs = [] := List.eq_nil_of_length_eq_zero (by simpa using h.1)
theorem RelL.out_cons {I : Info} {w : World} {c : AV} {cs : List AV} {xs : List Value} (h : RelL I w (c :: cs) xs) : ∃ x xs', xs = x :: xs' ∧ Rel I w c x ∧ RelL I w cs xs' := by
  cases xs with
  | nil => have := h.1; simp at this
  | cons x xs' => exact ⟨x, xs', rfl, h.head, h.tail⟩
theorem RelL.append {I : Info} {w : World} {cs ds : List AV} {xs ys : List Value} (h : RelL I w cs xs) (g : RelL I w ds ys) : RelL I w (cs ++ ds) (xs ++ ys) := by
  refine ⟨by simp [h.1, g.1], fun j hj => ?_⟩
  by_cases hc : j < cs.length
  · rw [List.getElem_append_left hc]
    have hx : j < xs.length := by rw [h.1]; exact hc
    have := h.2 j hc
    rw [show (xs ++ ys).getD j undef = xs.getD j undef from by simp [List.getD, List.getElem?_append_left hx]]
    exact this
  · have hj' : j < cs.length + ds.length := by simpa using hj
    rw [List.getElem_append_right (by omega)]
    rw [show (xs ++ ys).getD j undef = ys.getD (j - cs.length) undef from by rw [← h.1]; simp [List.getD, List.getElem?_append_right (show xs.length ≤ j by rw [h.1]; omega)]]
    exact g.2 _ (by omega)
theorem RelL.map {I : Info} {w : World} {α : Type} (f : α → AV) (g : α → Value) (l : List α) (h : ∀ x ∈ l, Rel I w (f x) (g x)) : RelL I w (l.map f) (l.map g) :=
  ⟨by simp, fun j hj => by
    have hj' : j < l.length := by simpa using hj
    simp only [List.getElem_map, List.getD, List.getElem?_map, List.getElem?_eq_getElem hj', Option.map_some, Option.getD_some]
    exact h _ (List.getElem_mem _)⟩

/-- What the package-level variables that are listed read as. -/
def G : Nat → Option (List AV) := fun | 0 => some [.anyk .i64] | 1 => some [.anyi] | 2 => some [.anyi] | _ => none

inductive Chunk where
  | obj (o : Nat) (cs : List AV)
  | tok (t : Nat) (E : TypeId)
  | ty (o : Nat) (E : TypeId)
  | iter (o : Nat) (s : List UInt8) (pos : Nat)

def Chunk.blk (I : Info) : Chunk → Option Nat
  | .obj o _ => I.obj o
  | .tok t _ => (I.tok t).bind (·.1)
  | .ty _ _ => none
  | .iter o _ _ => I.obj o

/-- A block of cells none of which (below n) is frozen. -/
def CellsAt (w : World) (b : Nat) (arr : List Value) : Prop :=
  ∃ E fz, w.heap[b]? = some (.cells arr.toArray E fz) ∧ (fz.1 = fz.2 ∨ arr.length ≤ fz.1)

def Chunk.Holds (I : Info) (w : World) : Chunk → Prop
  | .obj o cs => ∃ b arr, I.obj o = some b ∧ I.ext b = some 0 ∧ CellsAt w b arr ∧ RelL I w cs arr
  | .tok t E => ∃ ob n c, I.tok t = some (ob, n, c) ∧ (ob = none → n = 0 ∧ c = 0) ∧ ∀ b, ob = some b → I.ext b = some n ∧ n ≤ c ∧ ∃ arr, CellsAt w b arr ∧ arr.length = c ∧ ElemAt w b E
  | .ty o E => ∃ b, I.obj o = some b ∧ ElemAt w b E
  | .iter o s pos => ∃ b, I.obj o = some b ∧ I.ext b = some 0 ∧ w.heap[b]? = some (.stringIter ⟨s.toArray⟩ pos)

structure Inv (I : Info) (A : List Chunk) (w : World) : Prop where
  holds : ∀ c ∈ A, c.Holds I w
  nodup : (A.filterMap (Chunk.blk I)).Nodup
  fresh : ∀ b, w.heap.size ≤ b → I.ext b = some 0
  ids : ∃ n, ∀ o, n ≤ o → I.obj o = none ∧ I.tok o = none
  glob : ∀ g cs, G g = some cs → Rel I w (.cp cs) (.pointer (some ⟨g, 0, none⟩))

theorem CellsAt.lt {w : World} {b : Nat} {arr : List Value} (h : CellsAt w b arr) : b < w.heap.size := by
  obtain ⟨E, fz, h, _⟩ := h
  exact (Array.getElem?_eq_some_iff.1 h).1

theorem CellsAt.cell {w : World} {b : Nat} {arr : List Value} (h : CellsAt w b arr) (j : Nat) : w.cell? ⟨b, j, none⟩ = arr[j]? := by
  obtain ⟨E, fz, h, _⟩ := h
  simp [World.cell?, h]

theorem CellsAt.free {w : World} {b : Nat} {arr : List Value} (h : CellsAt w b arr) {j : Nat} (hj : j < arr.length) : w.frozen? ⟨b, j, none⟩ = false := by
  obtain ⟨E, fz, h, hf⟩ := h
  simp only [World.frozen?, h]
  simp only [Bool.and_eq_false_iff, decide_eq_false_iff_not]
  omega

theorem Chunk.Holds.blk_lt {I : Info} {w : World} {c : Chunk} (h : c.Holds I w) {b : Nat} (hb : c.blk I = some b) : b < w.heap.size := by
  cases c with
  | obj o cs =>
    obtain ⟨b', arr, ho, _, hc, _⟩ := h
    simp only [Chunk.blk] at hb
    rw [ho] at hb; cases hb; exact hc.lt
  | tok t E0 =>
    obtain ⟨ob, n, c, ht, _, h⟩ := h
    simp only [Chunk.blk, ht, Option.bind_some] at hb
    obtain ⟨_, _, arr, hc, _⟩ := h b hb
    exact hc.lt
  | ty o E => cases hb
  | iter o s pos =>
    obtain ⟨b', ho, _, hh⟩ := h
    simp only [Chunk.blk] at hb
    rw [ho] at hb; cases hb; exact (Array.getElem?_eq_some_iff.1 hh).1

theorem Chunk.Holds.blk_ext {I : Info} {w : World} {c : Chunk} (h : c.Holds I w) {b : Nat} (hb : c.blk I = some b) : ∃ n, I.ext b = some n := by
  cases c with
  | obj o cs =>
    obtain ⟨b', arr, ho, he, hc, _⟩ := h
    simp only [Chunk.blk] at hb
    rw [ho] at hb; cases hb; exact ⟨0, he⟩
  | tok t E0 =>
    obtain ⟨ob, n, c, ht, _, h⟩ := h
    simp only [Chunk.blk, ht, Option.bind_some] at hb
    exact ⟨n, (h b hb).1⟩
  | ty o E => cases hb
  | iter o s pos =>
    obtain ⟨b', ho, he, hh⟩ := h
    simp only [Chunk.blk] at hb
    rw [ho] at hb; cases hb; exact ⟨0, he⟩

/-- A chunk whose block has not turned holds on. -/
theorem Chunk.Holds.keep {I I' : Info} {w w' : World} (E : Ext I w I' w') {c : Chunk} (h : c.Holds I w)
    (hb : ∀ b, c.blk I = some b → w'.heap[b]? = w.heap[b]? ∧ I'.ext b = I.ext b) : c.Holds I' w' ∧ c.blk I' = c.blk I := by
  cases c with
  | obj o cs =>
    obtain ⟨b, arr, ho, he, ⟨E', fz, hh, hf⟩, hr⟩ := h
    obtain ⟨h1, h2⟩ := hb b ho
    exact ⟨⟨b, arr, E.obj _ _ ho, h2.trans he, ⟨E', fz, h1.trans hh, hf⟩, hr.mono E⟩, (E.obj _ _ ho).trans ho.symm⟩
  | tok t E0 =>
    obtain ⟨ob, n, c, ht, h0, h⟩ := h
    have ht' := E.tok _ _ ht
    refine ⟨⟨ob, n, c, ht', h0, fun b e => ?_⟩, by simp only [Chunk.blk, ht, ht']⟩
    obtain ⟨he, hn, arr, ⟨E', fz, hh, hf⟩, hl, c', fz', het⟩ := h b e
    obtain ⟨h1, h2⟩ := hb b (by simp only [Chunk.blk, ht, Option.bind_some]; exact e)
    exact ⟨h2.trans he, hn, arr, ⟨E', fz, h1.trans hh, hf⟩, hl, c', fz', h1.trans het⟩
  | ty o E1 =>
    obtain ⟨b, ho, he⟩ := h
    exact ⟨⟨b, E.obj _ _ ho, E.elem _ _ he⟩, rfl⟩
  | iter o s pos =>
    obtain ⟨b, ho, he, hh⟩ := h
    obtain ⟨h1, h2⟩ := hb b ho
    exact ⟨⟨b, E.obj _ _ ho, h2.trans he, h1.trans hh⟩, (E.obj _ _ ho).trans ho.symm⟩

theorem filterMap_same {α β : Type} {f g : α → Option β} : ∀ (l : List α), (∀ x ∈ l, f x = g x) → l.filterMap f = l.filterMap g
  | [], _ => rfl
  | x :: l, h => by
    rw [List.filterMap_cons, List.filterMap_cons, h x (List.mem_cons_self ..), filterMap_same l fun y hy => h y (List.mem_cons_of_mem _ hy)]

theorem Inv.keep {I I' : Info} {A : List Chunk} {w w' : World} (h : Inv I A w) (E : Ext I w I' w')
    (hb : ∀ c ∈ A, ∀ b, c.blk I = some b → w'.heap[b]? = w.heap[b]? ∧ I'.ext b = I.ext b)
    (hf : ∀ b, w'.heap.size ≤ b → I'.ext b = some 0) (hi : ∃ n, ∀ o, n ≤ o → I'.obj o = none ∧ I'.tok o = none) : Inv I' A w' := by
  refine ⟨fun c hc => ((h.holds c hc).keep E (hb c hc)).1, ?_, hf, hi, fun g cs hg => (h.glob g cs hg).mono E⟩
  have : A.filterMap (Chunk.blk I') = A.filterMap (Chunk.blk I) := filterMap_same A fun c hc => ((h.holds c hc).keep E (hb c hc)).2
  rw [this]; exact h.nodup

theorem Inv.perm {I : Info} {A B : List Chunk} {w : World} (h : Inv I A w) (p : A.Perm B) : Inv I B w :=
  ⟨fun c hc => h.holds c (p.mem_iff.2 hc), (p.filterMap _).nodup_iff.1 h.nodup, h.fresh, h.ids, h.glob⟩

theorem Inv.sub {I : Info} {A B : List Chunk} {w : World} (h : Inv I A w) (s : B.Sublist A) : Inv I B w :=
  ⟨fun c hc => h.holds c (s.subset hc), (s.filterMap _).nodup h.nodup, h.fresh, h.ids, h.glob⟩

theorem Inv.cons {I : Info} {A : List Chunk} {w : World} {c : Chunk} (h : Inv I A w) (hc : c.Holds I w) (hn : ∀ b, c.blk I = some b → ∀ d ∈ A, d.blk I ≠ some b) : Inv I (c :: A) w := by
  refine ⟨fun d hd => (List.mem_cons.1 hd).elim (fun e => e ▸ hc) (h.holds d), ?_, h.fresh, h.ids, h.glob⟩
  rw [List.filterMap_cons]
  cases hb : c.blk I with
  | none => exact h.nodup
  | some b =>
    refine List.nodup_cons.2 ⟨fun hm => ?_, h.nodup⟩
    obtain ⟨d, hd, hdb⟩ := List.mem_filterMap.1 hm
    exact hn b hb d hd hdb

/-- What lies apart of a chunk that stands first. -/
theorem Inv.apart {I : Info} {A : List Chunk} {w : World} {c : Chunk} (h : Inv I (c :: A) w) {b : Nat} (hb : c.blk I = some b) : ∀ d ∈ A, d.blk I ≠ some b := by
  intro d hd e
  have := h.nodup
  rw [List.filterMap_cons, hb] at this
  exact (List.nodup_cons.1 this).1 (List.mem_filterMap.2 ⟨d, hd, e⟩)

/-! ### The steps that worlds take -/

theorem Ext.drew (I : Info) (w : World) : Ext I w I w.drew :=
  ⟨rfl, rfl, rfl, Nat.le_refl _, fun _ h => ⟨rfl, h⟩, fun _ _ _ => rfl, fun _ _ h => h, fun _ _ h => h, fun _ _ h => h, fun _ _ h => h⟩
theorem Inv.drew {I : Info} {A : List Chunk} {w : World} (h : Inv I A w) : Inv I A w.drew :=
  h.keep (Ext.drew I w) (fun _ _ _ _ => ⟨rfl, rfl⟩) h.fresh h.ids

def Info.putObj (I : Info) (o b : Nat) : Info := { I with ext := fun x => if x = b then some 0 else I.ext x, obj := fun x => if x = o then some b else I.obj x }
def Info.putTok (I : Info) (t b n c : Nat) : Info := { I with ext := fun x => if x = b then some n else I.ext x, tok := fun x => if x = t then some (some b, n, c) else I.tok x }
def Info.nilTok (I : Info) (t : Nat) : Info := { I with tok := fun x => if x = t then some (none, 0, 0) else I.tok x }
def Info.still (I : Info) (b : Nat) : Info := { I with ext := fun x => if x = b then none else I.ext x }

theorem heap_alloc_ne (w : World) (o : Obj) (b : Nat) (h : b ≠ w.heap.size) : (w.alloc o).heap[b]? = w.heap[b]? := by
  show (w.heap.push o)[b]? = _
  rw [Array.getElem?_push, if_neg h]
theorem heap_alloc_eq (w : World) (o : Obj) : (w.alloc o).heap[w.heap.size]? = some o := by
  show (w.heap.push o)[w.heap.size]? = _
  rw [Array.getElem?_push, if_pos rfl]
theorem cell_alloc_ne (w : World) (o : Obj) (b j : Nat) (h : b ≠ w.heap.size) : (w.alloc o).cell? ⟨b, j, none⟩ = w.cell? ⟨b, j, none⟩ := by
  simp only [World.cell?, heap_alloc_ne w o b h]

section
variable {I : Info} {A : List Chunk} {w : World}

theorem Inv.new_obj (h : Inv I A w) {o : Nat} (ho : I.obj o = none) (x : Obj) : Ext I w (I.putObj o w.heap.size) (w.alloc x) := by
  refine ⟨rfl, rfl, rfl, by simp, fun b hb => ?_, fun b j hj => ?_, fun b n hn => ?_, fun o' b hb => ?_, fun t x hx => hx, fun _ _ h => h.alloc _⟩
  · have hne : b ≠ w.heap.size := fun e => by rw [e, h.fresh _ (Nat.le_refl _)] at hb; cases hb
    exact ⟨heap_alloc_ne _ _ _ hne, by simp only [Info.putObj]; rw [if_neg hne]; exact hb⟩
  · refine cell_alloc_ne _ _ _ _ fun e => ?_
    have := hj 0 (by rw [e]; exact h.fresh _ (Nat.le_refl _))
    omega
  · intro m hm
    simp only [Info.putObj] at hm
    split at hm
    · rename_i e; subst e; exact Nat.le_trans (hn 0 (h.fresh _ (Nat.le_refl _))) (Nat.zero_le _)
    · exact hn m hm
  · simp only [Info.putObj]
    rw [if_neg (fun e => by rw [e, ho] at hb; cases hb)]; exact hb

/-- A new object: a block of cells of its own. -/
theorem Inv.alloc_obj (h : Inv I A w) {o : Nat} (ho : I.obj o = none) {cs : List AV} {xs : List Value} (E : TypeId) (hr : RelL I w cs xs) :
    Inv (I.putObj o w.heap.size) (.obj o cs :: A) (w.alloc (.cells xs.toArray E)) := by
  have X := h.new_obj ho (.cells xs.toArray E)
  have hlt : ∀ c ∈ A, ∀ b, c.blk I = some b → b ≠ w.heap.size := fun c hc b hb e => by
    have := (h.holds c hc).blk_lt hb; omega
  have K : Inv (I.putObj o w.heap.size) A (w.alloc (.cells xs.toArray E)) := by
    refine h.keep X (fun c hc b hb => ⟨heap_alloc_ne _ _ _ (hlt c hc b hb), by simp only [Info.putObj]; rw [if_neg (hlt c hc b hb)]⟩) (fun b hb => ?_) ?_
    · simp only [World.size_alloc] at hb
      simp only [Info.putObj]; rw [if_neg (by omega)]; exact h.fresh b (by omega)
    · obtain ⟨n, hn⟩ := h.ids
      refine ⟨max n (o + 1), fun x hx => ?_⟩
      have := hn x (by omega)
      refine ⟨?_, this.2⟩
      simp only [Info.putObj]; rw [if_neg (by omega)]; exact this.1
  refine K.cons ⟨w.heap.size, xs, by simp [Info.putObj], by simp [Info.putObj], ⟨E, (0, 0), heap_alloc_eq _ _, .inl rfl⟩, hr.mono X⟩ ?_
  intro b hb d hd e
  simp only [Chunk.blk, Info.putObj, if_true, Option.some.injEq] at hb
  have := ((h.holds d hd).keep X (fun b' hb' => ⟨heap_alloc_ne _ _ _ (hlt d hd b' hb'), by simp only [Info.putObj]; rw [if_neg (hlt d hd b' hb')]⟩)).2
  rw [this] at e
  exact hlt d hd b e hb.symm

theorem Inv.new_row (h : Inv I A w) {t : Nat} (ht : I.tok t = none) (n c : Nat) (x : Obj) : Ext I w (I.putTok t w.heap.size n c) (w.alloc x) := by
  refine ⟨rfl, rfl, rfl, by simp, fun b hb => ?_, fun b j hj => ?_, fun b m hm => ?_, fun o' b hb => hb, fun t' y hy => ?_, fun _ _ h => h.alloc _⟩
  · have hne : b ≠ w.heap.size := fun e => by rw [e, h.fresh _ (Nat.le_refl _)] at hb; cases hb
    exact ⟨heap_alloc_ne _ _ _ hne, by simp only [Info.putTok]; rw [if_neg hne]; exact hb⟩
  · refine cell_alloc_ne _ _ _ _ fun e => ?_
    have := hj 0 (by rw [e]; exact h.fresh _ (Nat.le_refl _))
    omega
  · intro m' hm'
    simp only [Info.putTok] at hm'
    split at hm'
    · rename_i e; subst e; have := hm 0 (h.fresh _ (Nat.le_refl _)); omega
    · exact hm m' hm'
  · simp only [Info.putTok]
    rw [if_neg (fun e => by rw [e, ht] at hy; cases hy)]; exact hy

/-- A new row whose first n cells stand still from now on, and which may grow. -/
theorem Inv.alloc_row (h : Inv I A w) {t : Nat} (ht : I.tok t = none) (n : Nat) (arr : List Value) (E : TypeId) (fz : Nat × Nat) (hn : n ≤ arr.length)
    (hf : fz.1 = fz.2 ∨ arr.length ≤ fz.1) :
    Inv (I.putTok t w.heap.size n arr.length) (.tok t E :: A) (w.alloc (.cells arr.toArray E fz)) := by
  have X := h.new_row ht n arr.length (.cells arr.toArray E fz)
  have hlt : ∀ c ∈ A, ∀ b, c.blk I = some b → b ≠ w.heap.size := fun c hc b hb e => by
    have := (h.holds c hc).blk_lt hb; omega
  have K : Inv (I.putTok t w.heap.size n arr.length) A (w.alloc (.cells arr.toArray E fz)) := by
    refine h.keep X (fun c hc b hb => ⟨heap_alloc_ne _ _ _ (hlt c hc b hb), by simp only [Info.putTok]; rw [if_neg (hlt c hc b hb)]⟩) (fun b hb => ?_) ?_
    · simp only [World.size_alloc] at hb
      simp only [Info.putTok]; rw [if_neg (by omega)]; exact h.fresh b (by omega)
    · obtain ⟨m, hm⟩ := h.ids
      refine ⟨max m (t + 1), fun x hx => ?_⟩
      have := hm x (by omega)
      refine ⟨this.1, ?_⟩
      simp only [Info.putTok]; rw [if_neg (by omega)]; exact this.2
  refine K.cons ⟨some w.heap.size, n, arr.length, by simp [Info.putTok], fun e => (by cases e), fun b e => ?_⟩ ?_
  · cases e
    exact ⟨by simp [Info.putTok], hn, arr, ⟨E, fz, heap_alloc_eq _ _, hf⟩, rfl, _, fz, heap_alloc_eq _ _⟩
  intro b hb d hd e
  simp only [Chunk.blk, Info.putTok, if_true, Option.bind_some, Option.some.injEq] at hb
  have := ((h.holds d hd).keep X (fun b' hb' => ⟨heap_alloc_ne _ _ _ (hlt d hd b' hb'), by simp only [Info.putTok]; rw [if_neg (hlt d hd b' hb')]⟩)).2
  rw [this] at e
  exact hlt d hd b e hb.symm

/-- The nil slice may grow: a token for it. -/
theorem Inv.nil_tok (h : Inv I A w) {t : Nat} (ht : I.tok t = none) (E : TypeId) : Ext I w (I.nilTok t) w ∧ Inv (I.nilTok t) (.tok t E :: A) w := by
  have X : Ext I w (I.nilTok t) w := by
    refine ⟨rfl, rfl, rfl, Nat.le_refl _, fun _ h => ⟨rfl, h⟩, fun _ _ _ => rfl, fun _ _ h => h, fun _ _ h => h, fun t' y hy => ?_, fun _ _ h => h⟩
    simp only [Info.nilTok]; rw [if_neg (fun e => by rw [e, ht] at hy; cases hy)]; exact hy
  refine ⟨X, Inv.cons (h.keep X (fun _ _ _ _ => ⟨rfl, rfl⟩) h.fresh ?_) ⟨none, 0, 0, by simp [Info.nilTok], fun _ => ⟨rfl, rfl⟩, fun b e => by cases e⟩ ?_⟩
  · obtain ⟨m, hm⟩ := h.ids
    refine ⟨max m (t + 1), fun x hx => ?_⟩
    have := hm x (by omega)
    refine ⟨this.1, ?_⟩
    simp only [Info.nilTok]; rw [if_neg (by omega)]; exact this.2
  · intro b hb; simp [Chunk.blk, Info.nilTok] at hb

theorem Inv.fresh_obj (h : Inv I A w) : ∃ o, I.obj o = none := let ⟨n, hn⟩ := h.ids; ⟨n, (hn n (Nat.le_refl _)).1⟩
theorem Inv.fresh_tok (h : Inv I A w) : ∃ t, I.tok t = none := let ⟨n, hn⟩ := h.ids; ⟨n, (hn n (Nat.le_refl _)).2⟩

/-- A new block that stands still as a whole. -/
theorem Inv.new_still (h : Inv I A w) (x : Obj) : Ext I w (I.still w.heap.size) (w.alloc x) := by
  refine ⟨rfl, rfl, rfl, by simp, fun b hb => ?_, fun b j hj => ?_, fun b n hn => ?_, fun o' b hb => hb, fun t x hx => hx, fun _ _ h => h.alloc _⟩
  · have hne : b ≠ w.heap.size := fun e => by rw [e, h.fresh _ (Nat.le_refl _)] at hb; cases hb
    exact ⟨heap_alloc_ne _ _ _ hne, by simp only [Info.still]; rw [if_neg hne]; exact hb⟩
  · refine cell_alloc_ne _ _ _ _ fun e => ?_
    have := hj 0 (by rw [e]; exact h.fresh _ (Nat.le_refl _))
    omega
  · intro m hm
    simp only [Info.still] at hm
    split at hm
    · cases hm
    · exact hn m hm
theorem Inv.alloc_still (h : Inv I A w) (x : Obj) : Inv (I.still w.heap.size) A (w.alloc x) := by
  have hlt : ∀ c ∈ A, ∀ b, c.blk I = some b → b ≠ w.heap.size := fun c hc b hb e => by
    have := (h.holds c hc).blk_lt hb; omega
  refine h.keep (h.new_still x) (fun c hc b hb => ⟨heap_alloc_ne _ _ _ (hlt c hc b hb), by simp only [Info.still]; rw [if_neg (hlt c hc b hb)]⟩) (fun b hb => ?_) h.ids
  simp only [World.size_alloc] at hb
  simp only [Info.still]; rw [if_neg (by omega)]; exact h.fresh b (by omega)

theorem heap_setCell_ne (w : World) (a : Addr) (u : Value) (b : Nat) (h : b ≠ a.block) : (w.setCell a u).heap[b]? = w.heap[b]? := by
  simp only [World.setCell, Array.getElem?_modify]
  rw [if_neg (fun e => h e.symm)]
theorem heap_setCell_eq {w : World} {b : Nat} {arr : List Value} (h : CellsAt w b arr) (j : Nat) (u : Value) : CellsAt (w.setCell ⟨b, j, none⟩ u) b (arr.set j u) := by
  obtain ⟨E, fz, hh, hf⟩ := h
  refine ⟨E, fz, ?_, by simpa using hf⟩
  simp only [World.setCell, Array.getElem?_modify, if_true, hh, Option.map_some]
  simp

/-- A cell of an object is stored. -/
theorem Inv.set_obj {o : Nat} {cs : List AV} (h : Inv I (.obj o cs :: A) w) {b : Nat} (ho : I.obj o = some b) (j : Nat) {c : AV} {u : Value} (hr : Rel I w c u) :
    Ext I w I (w.setCell ⟨b, j, none⟩ u) ∧ Inv I (.obj o (cs.set j c) :: A) (w.setCell ⟨b, j, none⟩ u) := by
  obtain ⟨b', arr, ho', he, hc, hrl⟩ := h.holds _ (List.mem_cons_self ..)
  rw [ho] at ho'; cases ho'
  have X : Ext I w I (w.setCell ⟨b, j, none⟩ u) := by
    refine ⟨rfl, rfl, rfl, by simp, fun b' hb' => ⟨heap_setCell_ne _ _ _ _ (fun e => by simp only at e; rw [e, he] at hb'; cases hb'), hb'⟩, fun b' j' hj' => ?_, fun _ _ h => h, fun _ _ h => h, fun _ _ h => h, fun _ _ h => h.setCell _ _⟩
    refine World.cell?_setCell_other _ _ _ _ (fun e => ?_)
    cases e
    have := hj' 0 he; omega
  refine ⟨X, Inv.cons ((h.sub (List.sublist_cons_self ..)).keep X (fun d hd b' hb' => ⟨heap_setCell_ne _ _ _ _ (fun e => ?_), rfl⟩) (fun b' hb' => h.fresh b' (by simpa using hb')) h.ids) ?_ (fun b' hb' d hd e => ?_)⟩
  · exact h.apart (c := .obj o cs) (b := b) ho d hd (by simp only at e; rw [← e]; exact hb')
  · refine ⟨b, arr.set j u, ho, he, heap_setCell_eq hc j u, ?_⟩
    refine ⟨by simp [hrl.1], fun i hi => ?_⟩
    have hi' : i < cs.length := by simpa using hi
    by_cases hij : j = i
    · subst hij
      have hl : j < arr.length := by rw [hrl.1]; exact hi'
      simp only [List.getElem_set_self, List.getD, List.getElem?_set_self hl, Option.getD_some]
      exact hr.mono X
    · rw [List.getElem_set_ne hij]
      simp only [List.getD, List.getElem?_set_ne hij]
      exact (hrl.2 i hi').mono X
  · exact h.apart (c := .obj o cs) (b := b') (by simpa [Chunk.blk] using hb') d hd e

/-- A mark behind a block's cells. -/
theorem CellsAt.mark {w : World} {b : Nat} {arr : List Value} (h : CellsAt w b arr) : CellsAt (w.freeze ⟨b, arr.length, none⟩ 1) b arr := by
  obtain ⟨E, fz, hh, hf⟩ := h
  obtain ⟨lo, hi⟩ := fz
  refine ⟨E, if lo == hi then (arr.length, arr.length + 1) else (min lo arr.length, max hi (arr.length + 1)), ?_, ?_⟩
  · simp [World.freeze, Array.getElem?_modify, hh]
  · simp only at hf
    by_cases e : lo = hi
    · simp [e]
    · have : arr.length ≤ lo := by omega
      right
      rw [if_neg (by simpa using e)]
      simp; omega
theorem heap_freeze_ne (w : World) (a : Addr) (n b : Nat) (h : b ≠ a.block) : (w.freeze a n).heap[b]? = w.heap[b]? := by
  unfold World.freeze
  split
  · rfl
  · simp only [Array.getElem?_modify]; rw [if_neg (fun e => h e.symm)]
theorem cell_freeze (w : World) (a : Addr) (n : Nat) (x : Addr) : (w.freeze a n).cell? x = w.cell? x := by
  unfold World.freeze
  split
  · rfl
  · simp only [World.cell?, Array.getElem?_modify]
    by_cases e : a.block = x.block
    · simp only [e, if_true]
      cases hh : w.heap[x.block]? with
      | none => simp
      | some o => cases o <;> simp
    · simp [e]
/-- A row that may grow gets the mark that a text's bytes have. -/
theorem Inv.mark {t b n c : Nat} {E0 : TypeId} (h : Inv I (.tok t E0 :: A) w) (ht : I.tok t = some (some b, n, c)) : Ext I w I (w.freeze ⟨b, c, none⟩ 1) ∧ Inv I (.tok t E0 :: A) (w.freeze ⟨b, c, none⟩ 1) := by
  obtain ⟨ob, n', c', ht2, _, hh⟩ := h.holds _ (List.mem_cons_self ..)
  rw [ht] at ht2; cases ht2
  obtain ⟨he, hnc, arr, hca, hl⟩ := hh b rfl
  have hsz : (w.freeze ⟨b, c, none⟩ 1).heap.size = w.heap.size := by simp [World.freeze]
  have hrest : (w.freeze ⟨b, c, none⟩ 1).os = w.os ∧ (w.freeze ⟨b, c, none⟩ 1).tape = w.tape ∧ (w.freeze ⟨b, c, none⟩ 1).output = w.output := by simp [World.freeze]
  have X : Ext I w I (w.freeze ⟨b, c, none⟩ 1) := by
    refine ⟨hrest.1, hrest.2.1, hrest.2.2, by omega, fun b' hb' => ⟨heap_freeze_ne _ _ _ _ (fun e => by simp only at e; rw [e, he] at hb'; cases hb'), hb'⟩, fun b' j' _ => cell_freeze _ _ _ _, fun _ _ h => h, fun _ _ h => h, fun _ _ h => h, fun _ _ h => h.freeze _ _⟩
  refine ⟨X, Inv.cons ((h.sub (List.sublist_cons_self ..)).keep X (fun d hd b' hb' => ⟨heap_freeze_ne _ _ _ _ (fun e => ?_), rfl⟩) (fun b' hb' => h.fresh b' (by omega)) h.ids) ⟨some b, n, c, ht, fun e => (by cases e), fun b' e => ?_⟩ (fun b' hb' d hd e => ?_)⟩
  · exact h.apart (c := .tok t E0) (b := b) (by simp [Chunk.blk, ht]) d hd (by simp only at e; rw [← e]; exact hb')
  · cases e
    refine ⟨he, hnc, arr, ?_, hl.1, hl.2.freeze _ _⟩
    rw [← hl.1]; exact hca.mark
  · exact h.apart (c := .tok t E0) (b := b') hb' d hd e

/-- A row that may grow has grown within its block: cells n .. n + m have been stored; the elder token is given away for a new one. -/
theorem Inv.grow {t t' b n c : Nat} {E0 : TypeId} (h : Inv I (.tok t E0 :: A) w) (ht : I.tok t = some (some b, n, c)) (ht' : I.tok t' = none) {w' : World} (m : Nat) (hm : n + m ≤ c)
    (hos : w'.os = w.os) (htape : w'.tape = w.tape) (hout : w'.output = w.output) (hsz : w'.heap.size = w.heap.size)
    (hne : ∀ b', b' ≠ b → w'.heap[b']? = w.heap[b']?) (hin : ∀ j, j < n → w'.cell? ⟨b, j, none⟩ = w.cell? ⟨b, j, none⟩)
    (hat : ∃ arr, CellsAt w' b arr ∧ arr.length = c) (hel : ∀ E, ElemAt w b E → ElemAt w' b E) :
    Ext I w (I.putTok t' b (n + m) c) w' ∧ Inv (I.putTok t' b (n + m) c) (.tok t' E0 :: A) w' := by
  obtain ⟨ob, n', c', ht2, _, hh⟩ := h.holds _ (List.mem_cons_self ..)
  rw [ht] at ht2; cases ht2
  obtain ⟨he, hnc, arr, hca, hl⟩ := hh b rfl
  have hblt : b < w.heap.size := hca.lt
  have X : Ext I w (I.putTok t' b (n + m) c) w' := by
    refine ⟨hos, htape, hout, by omega, fun b' hb' => ?_, fun b' j hj => ?_, fun b' k hk => ?_, fun o' b' hb' => hb', fun s y hy => ?_, fun b' E hE => ?_⟩
    · have hb2 : b' ≠ b := fun e => by rw [e, he] at hb'; cases hb'
      exact ⟨hne b' hb2, by simp only [Info.putTok]; rw [if_neg hb2]; exact hb'⟩
    · by_cases hb2 : b' = b
      · subst hb2; exact hin j (by have := hj n he; omega)
      · simp only [World.cell?, hne b' hb2]
    · intro k' hk'
      simp only [Info.putTok] at hk'
      split at hk'
      · rename_i e; subst e; cases hk'; have := hk n he; omega
      · exact hk k' hk'
    · simp only [Info.putTok]; rw [if_neg (fun e => by rw [e, ht'] at hy; cases hy)]; exact hy
    · by_cases hb2 : b' = b
      · subst hb2; exact hel E hE
      · obtain ⟨c1, fz1, h1⟩ := hE; exact ⟨c1, fz1, (hne b' hb2).trans h1⟩
  have hap := h.apart (c := .tok t E0) (b := b) (by simp [Chunk.blk, ht])
  have K : Inv (I.putTok t' b (n + m) c) A w' := by
    refine (h.sub (List.sublist_cons_self ..)).keep X (fun d hd b' hb' => ?_) (fun b' hb' => ?_) ?_
    · have hb2 : b' ≠ b := fun e => hap d hd (by rw [← e]; exact hb')
      exact ⟨hne b' hb2, by simp only [Info.putTok]; rw [if_neg hb2]⟩
    · simp only [Info.putTok]; rw [if_neg (by omega)]; exact h.fresh b' (by omega)
    · obtain ⟨k, hk⟩ := h.ids
      refine ⟨max k (t' + 1), fun x hx => ?_⟩
      have := hk x (by omega)
      refine ⟨this.1, ?_⟩
      simp only [Info.putTok]; rw [if_neg (by omega)]; exact this.2
  refine ⟨X, K.cons ⟨some b, n + m, c, by simp [Info.putTok], fun e => (by cases e), fun b' e => ?_⟩ ?_⟩
  · cases e
    obtain ⟨arr2, h1, h2⟩ := hat
    exact ⟨by simp [Info.putTok], hm, arr2, h1, h2, hel _ hl.2⟩
  · intro b' hb' d hd e
    simp only [Chunk.blk, Info.putTok, if_true, Option.bind_some, Option.some.injEq] at hb'
    subst hb'
    have hd2 : d.blk I ≠ some b := hap d hd
    have := ((h.holds d (List.mem_cons_of_mem _ hd)).keep X (fun b' hb' => by
      have hb2 : b' ≠ b := fun e => hd2 (by rw [← e]; exact hb')
      exact ⟨hne b' hb2, by simp only [Info.putTok]; rw [if_neg hb2]⟩)).2
    rw [this] at e
    exact hd2 e

/-- A walk over a text begins. -/
theorem Inv.alloc_iter (h : Inv I A w) {o : Nat} (ho : I.obj o = none) (s : List UInt8) (pos : Nat) :
    Inv (I.putObj o w.heap.size) (.iter o s pos :: A) (w.alloc (.stringIter ⟨s.toArray⟩ pos)) := by
  have X := h.new_obj ho (.stringIter ⟨s.toArray⟩ pos)
  have hlt : ∀ c ∈ A, ∀ b, c.blk I = some b → b ≠ w.heap.size := fun c hc b hb e => by
    have := (h.holds c hc).blk_lt hb; omega
  have K : Inv (I.putObj o w.heap.size) A (w.alloc (.stringIter ⟨s.toArray⟩ pos)) := by
    refine h.keep X (fun c hc b hb => ⟨heap_alloc_ne _ _ _ (hlt c hc b hb), by simp only [Info.putObj]; rw [if_neg (hlt c hc b hb)]⟩) (fun b hb => ?_) ?_
    · simp only [World.size_alloc] at hb
      simp only [Info.putObj]; rw [if_neg (by omega)]; exact h.fresh b (by omega)
    · obtain ⟨n, hn⟩ := h.ids
      refine ⟨max n (o + 1), fun x hx => ?_⟩
      have := hn x (by omega)
      refine ⟨?_, this.2⟩
      simp only [Info.putObj]; rw [if_neg (by omega)]; exact this.1
  refine K.cons ⟨w.heap.size, by simp [Info.putObj], by simp [Info.putObj], heap_alloc_eq _ _⟩ ?_
  intro b hb d hd e
  simp only [Chunk.blk, Info.putObj, if_true, Option.some.injEq] at hb
  have := ((h.holds d hd).keep X (fun b' hb' => ⟨heap_alloc_ne _ _ _ (hlt d hd b' hb'), by simp only [Info.putObj]; rw [if_neg (hlt d hd b' hb')]⟩)).2
  rw [this] at e
  exact hlt d hd b e hb.symm

/-- It goes on. -/
theorem Inv.set_iter {o b pos pos' : Nat} {s : List UInt8} (h : Inv I (.iter o s pos :: A) w) (ho : I.obj o = some b) {w' : World} (hos : w'.os = w.os) (htape : w'.tape = w.tape) (hout : w'.output = w.output) (hsz : w'.heap.size = w.heap.size)
    (hne : ∀ b', b' ≠ b → w'.heap[b']? = w.heap[b']?) (hat : w'.heap[b]? = some (.stringIter ⟨s.toArray⟩ pos')) : Ext I w I w' ∧ Inv I (.iter o s pos' :: A) w' := by
  obtain ⟨b', ho', he, hh⟩ := h.holds _ (List.mem_cons_self ..)
  rw [ho] at ho'; cases ho'
  have X : Ext I w I w' := by
    refine ⟨hos, htape, hout, by omega, fun c hc => ?_, fun c j hj => ?_, fun _ _ h => h, fun _ _ h => h, fun _ _ h => h, fun c E hE => ?_⟩
    · have : c ≠ b := fun e => by rw [e, he] at hc; cases hc
      exact ⟨hne c this, hc⟩
    · have : c ≠ b := fun e => by have := hj 0 (by rw [e]; exact he); omega
      simp only [World.cell?, hne c this]
    · by_cases e : c = b
      · subst e; obtain ⟨d, fz, hd⟩ := hE; rw [hh] at hd; cases hd
      · obtain ⟨d, fz, hd⟩ := hE; exact ⟨d, fz, (hne c e).trans hd⟩
  have hap := h.apart (c := .iter o s pos) (b := b) ho
  refine ⟨X, Inv.cons ((h.sub (List.sublist_cons_self ..)).keep X (fun d hd b' hb' => ?_) (fun b' hb' => h.fresh b' (by omega)) h.ids) ⟨b, ho, he, hat⟩ (fun b' hb' d hd e => ?_)⟩
  · have : b' ≠ b := fun e => hap d hd (by rw [← e]; exact hb')
    exact ⟨hne b' this, rfl⟩
  · exact hap d hd (by simp only [Chunk.blk] at hb'; rw [ho] at hb'; cases hb'; exact e)
end
end Go.Av
