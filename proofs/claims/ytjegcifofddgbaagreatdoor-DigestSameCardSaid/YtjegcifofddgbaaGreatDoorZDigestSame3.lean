/-
  Texts in one (only what DigestSame needs): AvSl, AvBig, AvTab, AvTv, AvSync, AvRep, LibSW, RepP, RepW, EntAP, EntAW, NumP, NumW, AnyP.
-/
import Derived.Test.YtjegcifofddgbaaGreatDoorZDigestSame2
import Derived.Lib.SlFresh
import Derived.Lib.SlParts
import Derived.Shelf.Bytes.SlSmallAll
import Derived.Shelf.Strings.FuncGrows
import Derived.Lib.FieldsP
import Derived.Below
import Derived.Lib.LaidTab
import Derived.Lib.ItoaNum
import Derived.Lib.AppendIntMem
import Derived.Laws.LoneSync
import Derived.Test.YtjegcifofddgbaaGreatDoorShelf
import Derived.Lib.IndexLaws
import Derived.Test.YtjegcifofddgbaaGreatDoorChecked
import Derived.Lib.IndexMore
import Derived.Lib.IndexAny
set_option linter.unusedVariables false
set_option linter.unusedSimpArgs false
namespace Go.Av
open Go.RowKit Go.Pv
section
variable {P : Program} {I : Info} {w w' : World} {A F : List Chunk}
theorem rD {l : List UInt8} {xs : List Value} (h : RelL I w (Enc.byte.fl l) xs) (i : Nat) (hi : i < l.length) : xs.getD i undef = .int .u8 ((Go.Lib.numsL l).getD i 0) := by
  rw [eV] at h
  have h1 := h.2 i (by simpa using hi)
  simp only [List.getElem_map] at h1
  have := bO h1
  rw [this]
  simp [Go.Lib.numsL, List.getD, hi]
theorem mf {l : List UInt8} {t : Option Nat} {v : Value} (h : Rel I w (slE Enc.byte l t) v) : ∃ a cap, v = .slice a l.length cap ∧ l.length ≤ cap ∧ Go.Lib.BytesIn w a l.length (Go.Lib.numsL l) ∧
    (l ≠ [] → ∃ b o, a = some ⟨b, o, none⟩ ∧ ∀ i, i < l.length → w.cell? ⟨b, o + i, none⟩ = some (.int .u8 ((Go.Lib.numsL l).getD i 0))) := by
  obtain ⟨a, cap, xs, e1, hcap, hrl, hor⟩ := iU h
  have hfl : (Enc.byte.fl l).length = l.length := by rw [eV]; simp
  have hc : l ≠ [] → ∃ b o, a = some ⟨b, o, none⟩ ∧ ∀ i, i < l.length → w.cell? ⟨b, o + i, none⟩ = some (.int .u8 ((Go.Lib.numsL l).getD i 0)) := by
    intro hne
    rcases hor with h0 | ⟨b, o, ha, _, hc⟩
    · exact absurd (List.eq_nil_of_length_eq_zero h0) hne
    · exact ⟨b, o, ha, fun i hi => by rw [hc i (by rw [hfl]; exact hi), rD hrl i hi]⟩
  refine ⟨a, cap, e1, hcap, ?_, hc⟩
  by_cases hne : l = []
  · subst hne; exact fun h => absurd h (Nat.lt_irrefl 0)
  · exact fun _ => hc hne
theorem xg {l : List (List UInt8)} {t : Option Nat} {v : Value} (h : Rel I w (slE (Enc.sl Enc.byte) l t) v) : ∃ a cap, v = .slice a l.length cap ∧ l.length ≤ cap ∧
    (l ≠ [] → ∃ b o vs, a = some ⟨b, o, none⟩ ∧ Go.Lib.PartsAt w ⟨b, o, none⟩ vs l) := by
  obtain ⟨a, cap, xs, e1, hcap, hrl, hor⟩ := iU h
  have hf : (Enc.sl Enc.byte).fl l = l.map fun x => slE Enc.byte x none := by
    clear hor hrl e1 hcap h
    induction l with
    | nil => rfl
    | cons c s ih => rw [dQ, ih]; rfl
  rw [hf] at hrl hor
  refine ⟨a, cap, e1, hcap, fun hne => ?_⟩
  rcases hor with h0 | ⟨b, o, ha, _, hc⟩
  · exact absurd (List.eq_nil_of_length_eq_zero h0) hne
  · simp only [List.length_map] at hc
    have hxl : xs.length = l.length := by rw [hrl.1]; simp
    refine ⟨b, o, xs, ha, hxl, fun i v hv => ?_, fun i v m hv hm => ?_⟩
    · have hi : i < l.length := by rw [← hxl]; exact (List.getElem?_eq_some_iff.1 hv).1
      rw [cu, hc i hi]
      simp [List.getD, hv]
    · have hi : i < l.length := (List.getElem?_eq_some_iff.1 hm).1
      have h1 := hrl.2 i (by simpa using hi)
      simp only [List.getElem_map] at h1
      rw [show xs.getD i undef = v by simp [List.getD, hv], (List.getElem?_eq_some_iff.1 hm).2] at h1
      obtain ⟨a', cap', e', _, _, h2⟩ := mf h1;refine ⟨a', cap', e', fun hn => ?_, fun ad had j x hx => ?_⟩
      · by_cases hme : m = []
        · exact hme
        · obtain ⟨b', o', ha', _⟩ := h2 hme; rw [hn] at ha'; cases ha'
      · have hj : j < m.length := (List.getElem?_eq_some_iff.1 hx).1
        obtain ⟨b', o', ha', h3⟩ := h2 (by intro e; subst e; simp at hj)
        rw [had] at ha'; cases ha'
        rw [cu, h3 j hj]
        simp [Go.Lib.numsL, List.getD, hx]
theorem Inv.new_tok (hI : Inv I A w) (hb : Below w.heap.size w w') {g n c : Nat} {arr : List Value} {E : TypeId} {fz : Nat × Nat} (hg : w.heap.size ≤ g) (hh : w'.heap[g]? = some (.cells arr.toArray E fz)) (hf : fz.1 = fz.2 ∨ arr.length ≤ fz.1) (hc : arr.length = c) (hn : n ≤ c) :
    ∃ t, Ext I w (I.putTok t g n c) w' ∧ Inv (I.putTok t g n c) (.tok t E :: A) w' := by
  obtain ⟨t, ht⟩ := hI.fresh_tok;obtain ⟨X0, hI'⟩ := Inv.below hI hb
  have hgf : I.ext g = some 0 := hI.fresh g hg
  have X : Ext I w (I.putTok t g n c) w' := by
    refine ⟨X0.os, X0.tape, X0.out, X0.size, fun b' hb' => ?_, fun b' j hj => ?_, fun b' k hk => ?_, fun o' b' h => h, fun s y hy => ?_, X0.elem⟩
    · have hb2 : b' ≠ g := fun e => by rw [e, hgf] at hb'; cases hb'
      exact ⟨(X0.blk b' hb').1, by simp only [Info.putTok]; rw [if_neg hb2]; exact hb'⟩
    · exact X0.cell b' j hj
    · intro k' hk'
      simp only [Info.putTok] at hk'
      split at hk'
      · rename_i e; subst e; cases hk'; have := hk 0 hgf; omega
      · exact hk k' hk'
    · simp only [Info.putTok]; rw [if_neg (fun e => by rw [e, ht] at hy; cases hy)]; exact hy
  have hlt : ∀ c' ∈ A, ∀ b, c'.blk I = some b → b ≠ g := fun c' hc' b hb' e => by
    have := (hI.holds c' hc').blk_lt hb'; omega
  have X2 : Ext I w' (I.putTok t g n c) w' := by
    refine ⟨rfl, rfl, rfl, Nat.le_refl _, fun b' hb' => ?_, fun b' j hj => rfl, X.ext, fun o' b' h => h, X.tok, fun _ _ h => h⟩
    have hb2 : b' ≠ g := fun e => by rw [e, hgf] at hb'; cases hb'
    exact ⟨rfl, by simp only [Info.putTok]; rw [if_neg hb2]; exact hb'⟩
  have K : Inv (I.putTok t g n c) A w' := by
    refine hI'.keep X2 (fun c' hc' b hb' => ⟨rfl, by simp only [Info.putTok]; rw [if_neg (hlt c' hc' b hb')]⟩) (fun b hb' => ?_) ?_
    · have hb2 : b ≠ g := fun e => by
        have := (Array.getElem?_eq_some_iff.1 hh).1; omega
      simp only [Info.putTok]; rw [if_neg hb2]; exact hI'.fresh b hb'
    · obtain ⟨k, hk⟩ := hI.ids
      refine ⟨max k (t + 1), fun x hx => ?_⟩
      have := hk x (by omega)
      refine ⟨this.1, ?_⟩
      simp only [Info.putTok]; rw [if_neg (by omega)]; exact this.2
  refine ⟨t, X, K.cons ⟨some g, n, c, by simp [Info.putTok], fun e => (by cases e), fun b e => ?_⟩ ?_⟩
  · cases e
    exact ⟨by simp [Info.putTok], hn, arr, ⟨E, fz, hh, by rw [hc] at hf ⊢; exact hf⟩, hc, arr.toArray, fz, hh⟩
  · intro b hb' d hd e
    simp only [Chunk.blk, Info.putTok, if_true, Option.bind_some, Option.some.injEq] at hb'
    have := ((hI'.holds d hd).keep X2 (fun b' hb'' => ⟨rfl, by simp only [Info.putTok]; rw [if_neg (hlt d hd b' hb'')]⟩)).2
    rw [this] at e
    exact hlt d hd b e hb'.symm
theorem qn {b j : Nat} {v : Value} (h : w.cell? ⟨b, j, none⟩ = some v) : ∃ arr E fz, w.heap[b]? = some (.cells arr E fz) := by
  unfold World.cell? at h
  cases ho : w.heap[b]? with
  | none => simp [ho] at h
  | some o => cases o <;> simp_all
theorem qB {l : List UInt8} {v : Value} (hI : Inv I A w) (hb : Below w.heap.size w w') (h : Go.Lib.FreshBytes w.heap.size w' v l) (hne : l ≠ []) :
    ∃ I' t, Ext I w I' w' ∧ Inv I' (.tokw t :: A) w' ∧ Rel I' w' (slE Enc.byte l (some t)) v := by
  obtain ⟨g, cap, zs, rfl, hg, hlc, hmax, hzl, hrange, hby, hcell, hfree⟩ := h
  have hl0 : 0 < l.length := List.length_pos_iff.2 hne
  obtain ⟨arr, E, fz, hh⟩ := qn (hcell 0 (by omega))
  have hsz : cap ≤ arr.size := by
    by_cases hc : cap = 0
    · omega
    · have := hcell (cap - 1) (by omega)
      simp only [World.cell?, hh, Option.isSome_none, Bool.false_eq_true, if_false] at this
      have := (Array.getElem?_eq_some_iff.1 this).1
      omega
  obtain ⟨t, ht⟩ := hI.fresh_tok;obtain ⟨X0, hI'⟩ := Inv.below hI hb
  have hgf : I.ext g = some 0 := hI.fresh g hg
  have X2 : Ext I w' (I.putTok t g l.length cap) w' := by
    refine ⟨rfl, rfl, rfl, Nat.le_refl _, fun b' hb' => ?_, fun b' j hj => rfl, fun b' k hk => ?_, fun o' b' h => h, fun s y hy => ?_, fun _ _ h => h⟩
    · have hb2 : b' ≠ g := fun e => by rw [e, hgf] at hb'; cases hb'
      exact ⟨rfl, by simp only [Info.putTok]; rw [if_neg hb2]; exact hb'⟩
    · intro k' hk'
      simp only [Info.putTok] at hk'
      split at hk'
      · rename_i e; subst e; cases hk'; have := hk 0 hgf; omega
      · exact hk k' hk'
    · simp only [Info.putTok]; rw [if_neg (fun e => by rw [e, ht] at hy; cases hy)]; exact hy
  have hlt : ∀ c' ∈ A, ∀ b, c'.blk I = some b → b ≠ g := fun c' hc' b hb' e => by
    have := (hI.holds c' hc').blk_lt hb'; omega
  have K : Inv (I.putTok t g l.length cap) A w' := by
    refine hI'.keep X2 (fun c' hc' b hb' => ⟨rfl, by simp only [Info.putTok]; rw [if_neg (hlt c' hc' b hb')]⟩) (fun b hb' => ?_) ?_
    · have hb2 : b ≠ g := fun e => by
        have := (Array.getElem?_eq_some_iff.1 hh).1; omega
      simp only [Info.putTok]; rw [if_neg hb2]; exact hI'.fresh b hb'
    · obtain ⟨k, hk⟩ := hI.ids
      refine ⟨max k (t + 1), fun x hx => ?_⟩
      have := hk x (by omega)
      refine ⟨this.1, ?_⟩
      simp only [Info.putTok]; rw [if_neg (by omega)]; exact this.2
  have hK : Inv (I.putTok t g l.length cap) (.tokw t :: A) w' := by
    refine K.cons ⟨g, l.length, cap, arr, E, fz, by simp [Info.putTok], by simp [Info.putTok], hlc, hh, hsz, hfree⟩ ?_;intro b hb' d hd e
    simp only [Chunk.blk, Info.putTok, if_true, Option.bind_some, Option.some.injEq] at hb'
    have := ((hI'.holds d hd).keep X2 (fun b' hb'' => ⟨rfl, by simp only [Info.putTok]; rw [if_neg (hlt d hd b' hb'')]⟩)).2
    rw [this] at e
    exact hlt d hd b e hb'.symm
  refine ⟨_, t, X0.trans X2, hK, ?_⟩
  have hfl : (Enc.byte.fl l).length = l.length := by rw [eV]; simp
  have hzl2 : (zs.take l.length).length = l.length := by simp; omega
  unfold slE
  refine .sl 1 _ (some t) g 0 _ _ (fun j => .int .u8 (zs.getD j 0)) (by decide) (by rw [hfl, Nat.mul_one]) hlc (fun m hm => ?_) (fun j hj => ?_) (fun j hj => ?_) (fun t' e => ?_)
  · simp only [Info.putTok, if_true, Option.some.injEq] at hm
    rw [hfl]; omega
  · rw [Nat.zero_add]; exact hcell j (by rw [hfl] at hj; omega)
  · have hj' : j < l.length := by rw [hfl] at hj; exact hj
    have h1 : (Enc.byte.fl l)[j] = u8 l[j] := by simp only [eV, List.getElem_map]
    rw [h1]
    have hz : zs.getD j 0 = (l[j].toNat : Int) := by
      have h2 : l[j] = (Go.Lib.bytesOf (zs.take l.length))[j]'(by rw [hby]; exact hj') := by simp only [hby]
      rw [h2]
      simp only [Go.Lib.bytesOf, List.getElem_map, List.getElem_take]
      have hr := hrange (zs[j]'(by omega)) (List.getElem_mem _)
      rw [List.getD, aK (by omega), Option.getD_some]
      simp only [UInt8.toNat_ofNat']
      omega
    rw [hz]
    exact .v _
  · cases e
    exact ⟨by simp [Info.putTok, hfl], rfl⟩
theorem Inv.tokw_of {t b n c : Nat} {E0 : TypeId} (hI : Inv I (.tok t E0 :: A) w) (ht : I.tok t = some (some b, n, c)) : Inv I (.tokw t :: A) w := by
  obtain ⟨ob, n', c', ht2, _, hh⟩ := hI.holds _ (List.mem_cons_self ..)
  rw [ht] at ht2; cases ht2
  obtain ⟨he, hnc, arr, hca, hal, _⟩ := hh b rfl;refine Inv.cons (hI.sub (List.sublist_cons_self ..)) ?_ (fun b' hb' d hd e => hI.apart (c := .tok t E0) (b := b') hb' d hd e);obtain ⟨E, fz, h1, _⟩ := id hca;exact ⟨b, n, c, arr.toArray, E, fz, ht, he, hnc, h1, by simp [hal], fun j hj => hca.free (by omega)⟩
theorem Inv.growW {t t' b n c : Nat} (h : Inv I (.tokw t :: A) w) (ht : I.tok t = some (some b, n, c)) (ht' : I.tok t' = none) {w' : World} (m : Nat) (hm : n + m ≤ c)
    (hos : w'.os = w.os) (htape : w'.tape = w.tape) (hout : w'.output = w.output) (hsz : w'.heap.size = w.heap.size)
    (hne : ∀ b', b' ≠ b → w'.heap[b']? = w.heap[b']?) (hin : ∀ j, j < n → w'.cell? ⟨b, j, none⟩ = w.cell? ⟨b, j, none⟩)
    (hat : ∃ arr E fz, w'.heap[b]? = some (.cells arr E fz) ∧ c ≤ arr.size ∧ ∀ j, j < c → w'.frozen? ⟨b, j, none⟩ = false) (hel : ∀ E, ElemAt w b E → ElemAt w' b E) :
    Ext I w (I.putTok t' b (n + m) c) w' ∧ Inv (I.putTok t' b (n + m) c) (.tokw t' :: A) w' := by
  obtain ⟨b0, n', c', arr0, E0, fz0, ht2, he, hnc, hh0, hsz0, hfr0⟩ := h.holds _ (List.mem_cons_self ..)
  rw [ht] at ht2; cases ht2
  have hblt : b < w.heap.size := (Array.getElem?_eq_some_iff.1 hh0).1
  have X : Ext I w (I.putTok t' b (n + m) c) w' := by
    refine ⟨hos, htape, hout, by omega, fun b' hb' => ?_, fun b' j hj => ?_, fun b' k hk => ?_, fun o' b' hb' => hb', fun s y hy => ?_, fun b' E hE => ?_⟩
    · have hb2 : b' ≠ b := fun e => by rw [e, he] at hb'; cases hb'
      exact ⟨hne b' hb2, by simp only [Info.putTok]; rw [if_neg hb2]; exact hb'⟩
    · by_cases hb2 : b' = b
      · subst hb2; exact hin j (by have := hj n he; omega)
      · simp only [World.cell?, hne b' hb2]
    · intro k' hk'
      simp only [Info.putTok] at hk'
      split at hk'
      · rename_i e; subst e; cases hk'; have := hk n he; omega
      · exact hk k' hk'
    · simp only [Info.putTok]; rw [if_neg (fun e => by rw [e, ht'] at hy; cases hy)]; exact hy
    · by_cases hb2 : b' = b
      · subst hb2; exact hel E hE
      · obtain ⟨c1, fz1, h1⟩ := hE; exact ⟨c1, fz1, (hne b' hb2).trans h1⟩
  have hap := h.apart (c := .tokw t) (b := b) (by simp [Chunk.blk, ht])
  have K : Inv (I.putTok t' b (n + m) c) A w' := by
    refine (h.sub (List.sublist_cons_self ..)).keep X (fun d hd b' hb' => ?_) (fun b' hb' => ?_) ?_
    · have hb2 : b' ≠ b := fun e => hap d hd (by rw [← e]; exact hb')
      exact ⟨hne b' hb2, by simp only [Info.putTok]; rw [if_neg hb2]⟩
    · simp only [Info.putTok]; rw [if_neg (by omega)]; exact h.fresh b' (by omega)
    · obtain ⟨k, hk⟩ := h.ids
      refine ⟨max k (t' + 1), fun x hx => ?_⟩
      have := hk x (by omega)
      refine ⟨this.1, ?_⟩
      simp only [Info.putTok]; rw [if_neg (by omega)]; exact this.2
  obtain ⟨arr, E, fz, g1, g2, g3⟩ := hat;refine ⟨X, K.cons ⟨b, n + m, c, arr, E, fz, by simp [Info.putTok], by simp [Info.putTok], hm, g1, g2, g3⟩ ?_⟩;intro b' hb' d hd e
  simp only [Chunk.blk, Info.putTok, if_true, Option.bind_some, Option.some.injEq] at hb'
  subst hb'
  have hd2 : d.blk I ≠ some b := hap d hd
  have := ((h.holds d (List.mem_cons_of_mem _ hd)).keep X (fun b' hb' => by
    have hb2 : b' ≠ b := fun e => hd2 (by rw [← e]; exact hb')
    exact ⟨hne b' hb2, by simp only [Info.putTok]; rw [if_neg hb2]⟩)).2
  rw [this] at e
  exact hd2 e
theorem lW (b : Nat) : ∀ (xs : List Value) (j : Nat) (w : World) {arr : Array Value} {E : TypeId} {fz : Nat × Nat}, w.heap[b]? = some (.cells arr E fz) → ∃ arr' : Array Value, (w.setCells b j xs).heap[b]? = some (.cells arr' E fz) ∧ arr'.size = arr.size
  | [], j, w, arr, E, fz, h => ⟨arr, h, rfl⟩
  | x :: xs, j, w, arr, E, fz, h => by
    have h1 : (w.setCell ⟨b, j, none⟩ x).heap[b]? = some (.cells (arr.setIfInBounds j x) E fz) := by
      simp only [World.setCell, Array.getElem?_modify, if_true, h, Option.map_some]
      rfl
    obtain ⟨arr', g1, g2⟩ := lW b xs (j + 1) _ h1;exact ⟨arr', g1, by rw [g2]; simp⟩
theorem pv {T T2 El : TypeId} {D2 : TypeDesc} {k bytes n m t : Nat} {cs ms : List AV} {v u : Value} {ty : TypeId}
    (hT : P.underlying T = some (.slice El)) (hT2 : P.underlying T2 = some D2) (hD2 : fj D2 = false) (hE : cH P El = some (k, bytes)) (hk : 0 < k)
    (hI : Inv I (.tokw t :: A) w) (hv : Rel I w (.sl k cs (some t)) v) (hn : cs.length = n * k) (hu : Src P I w k u ms m) (hcell : ∀ c ∈ ms, cP c = true) (hb : (n + m) * bytes ≤ 140737488355328) (hs : n + m ≤ 140737488355328) :
    ∃ v' w' I' t', (Builtin.append_ #[T, T2] ty #[v, u]).run P w = .ok v' w' ∧ Ext I w I' w' ∧ Inv I' (.tokw t' :: A) w' ∧ Rel I' w' (.sl k (cs ++ ms) (some t')) v' := by
  obtain ⟨i, z, hi, hz, hzs, hsz, hby⟩ := dZ hE
  have hu0 := hu
  obtain ⟨xs, hml, hrl, hlen, hfirst⟩ := hu
  have hxl : xs.length = m * k := by rw [hrl.1, hml]
  have hone : ∀ x ∈ xs, x.oneCell' = true := by
    intro x hx;obtain ⟨j, hj, rfl⟩ := List.getElem_of_mem hx
    have hj' : j < ms.length := by rw [← hrl.1]; exact hj
    have := hrl.2 j hj'
    rw [show xs.getD j undef = xs[j] by simp [List.getD, hj]] at this
    exact fC this (hcell _ (List.getElem_mem hj'))
  have hcz : bH P El = some k := by simp only [bH, hi, Option.map_some, hsz]
  obtain ⟨b0, n0, c0, arr0, E0, fz0, ht0, he0, hnc0, hh0, hsz0, hfr0⟩ := hI.holds _ (List.mem_cons_self ..)
  cases hv with
  | slnil k t ht => rw [ht0] at ht; cases ht
  | sl k cs t' b off len cap f hk' hlen' hcap hst hx hr ht =>
    obtain ⟨htk, rfl⟩ := ht t rfl
    have hln : len = n := Nat.eq_of_mul_eq_mul_right hk (hlen'.trans hn)
    subst hln
    obtain ⟨rfl, rfl, rfl⟩ : b = b0 ∧ cs.length = n0 ∧ cap * k = c0 := by rw [htk] at ht0; cases ht0; exact ⟨rfl, rfl, rfl⟩
    by_cases hfit : len + m ≤ cap
    · obtain ⟨t', ht'⟩ := hI.fresh_tok
      have hle : len * k + m * k ≤ cap * k := by rw [← Nat.add_mul]; exact Nat.mul_le_mul_right _ hfit
      have hex : ∀ j, j < cap * k → ∃ v, w.cell? ⟨b, j, none⟩ = some v := fun j hj => by
        refine ⟨arr0[j]'(by omega), ?_⟩
        simp [World.cell?, hh0, show j < arr0.size by omega]
      have hst' : (storeCells ⟨b, len * k, none⟩ xs).run P w = .ok () (w.setCells b (len * k + 0) xs) := by
        refine run_storeCells_cells b (len * k) xs 0 w (fun j hj => ?_) (fun j hj => ?_) hone
        · obtain ⟨v, hv⟩ := hex (len * k + 0 + j) (by omega)
          simp only [Nat.add_zero] at hv ⊢
          rw [hv]; rfl
        · exact hfr0 _ (by omega)
      simp only [Nat.add_zero] at hst'
      obtain ⟨r1, r2, r3, r4⟩ := kC b xs (len * k) w
      have hcell' : ∀ j, j < len * k → (w.setCells b (len * k) xs).cell? ⟨b, j, none⟩ = w.cell? ⟨b, j, none⟩ := fun j hj => World.cell?_setCells_out b xs _ w _ (fun _ _ => .inl hj)
      obtain ⟨arr', hca', hal'⟩ := lW b xs (len * k) w hh0
      have hfr' : ∀ j, j < cap * k → (w.setCells b (len * k) xs).frozen? ⟨b, j, none⟩ = false := fun j hj => by
        have := hfr0 j hj
        simp only [World.frozen?, hh0] at this
        simp only [World.frozen?, hca']
        exact this
      obtain ⟨E, hI'⟩ := hI.growW htk ht' (m * k) (by rw [← hlen']; exact hle) r1 r2 r3 r4 (fun b' hb' => hM b xs _ w b' hb') (by rw [← hlen']; exact hcell') ⟨arr', E0, fz0, hca', by rw [hal']; exact hsz0, hfr'⟩ (fun E hE => kD b xs _ w E hE);refine ⟨.slice (some ⟨b, 0, none⟩) (len + m) cap, _, _, t', ?_, E, hI', ?_⟩
      · cases D2 <;> cases hD2
        all_goals
          simp only [Builtin.append_, List.getElem?_toArray, List.getElem?_cons_zero, List.getElem?_cons_succ, run_underlying hT, run_underlying hT2, Sem.run_bind, Sem.run_pure, Result.andThen_ok, bM hcz, hlen, Bool.false_eq_true, if_false]
          rw [if_pos hfit]
          simp only [Sem.run_bind, hfirst w (fun _ _ _ => rfl), Bool.not_false, if_true, Result.andThen_ok, Sem.run_pure, cu, Nat.zero_add, hst']
      · refine .sl k _ _ _ 0 _ _ (fun j => if j < cs.length then f j else xs.getD (j - cs.length) undef) hk (by rw [List.length_append, ← hlen', hml, Nat.add_mul]) hfit ?_ ?_ ?_ ?_
        · intro q hq
          simp only [Info.putTok, if_true, Option.some.injEq] at hq
          subst hq; simp only [List.length_append, hml]; omega
        · intro j hj
          by_cases hjc : j < cs.length
          · rw [if_pos hjc, Nat.zero_add, hcell' j (by omega)]
            have := hx j hjc
            rwa [Nat.zero_add] at this
          · rw [if_neg hjc]
            have hj2 : j - cs.length < xs.length := by simp only [List.length_append, hml] at hj; omega
            have := World.cell?_setCells_in b xs (len * k) w (fun i hi => by obtain ⟨v, hv⟩ := hex (len * k + i) (by omega); rw [hv]; rfl) (j - cs.length) hj2
            rw [show 0 + j = len * k + (j - cs.length) by omega, this]
            simp [List.getD, hj2]
        · intro j hj
          by_cases hjc : j < cs.length
          · rw [if_pos hjc, List.getElem_append_left hjc]; exact (hr j hjc).mono E
          · rw [if_neg hjc, List.getElem_append_right (by omega)]
            exact (hrl.2 _ (by simp only [List.length_append] at hj; omega)).mono E
        · intro q hq
          cases hq
          exact ⟨by simp [Info.putTok, List.length_append, ← hlen', hml], rfl⟩
    · have hg : ∀ j, j < cs.length → ((List.range cs.length).map f).getD j undef = f j := fun j hj => by simp [List.getD, hj]
      obtain ⟨v1, w1, I1, t1, g1, g2, g3, g4⟩ := rV (ty := ty) (u := u) hT hT2 hD2 hE hk (hI.sub (List.sublist_cons_self ..)) hn hu0 hcell hb hs (some ⟨b, 0, none⟩) cap ((List.range cs.length).map f) (by simp) ⟨by simp, fun j hj => by rw [hg j hj]; exact hr j hj⟩ (by omega) (fun w' hw => by
        refine run_firstCells_some _ k len _ _ _ _ (by simp [hlen']) (fun j v hj => ?_)
        have hlt : j < cs.length := by have := (List.getElem?_eq_some_iff.1 hj).1; simpa using this
        rw [cu, hw b (0 + j) (hst.le (by omega)), hx j hlt]
        rw [← hg j hlt]
        simp only [List.getD, hj, Option.getD_some])
      refine ⟨v1, w1, I1, t1, g1, g2, ?_, g4⟩
      have hpos : 0 < (cs ++ ms).length := by
        simp only [List.length_append, hml, hn]
        have : 0 < (len + m) * k := Nat.mul_pos (by omega) hk
        rw [Nat.add_mul] at this
        exact this
      generalize hcm : cs ++ ms = q at g4 hpos
      cases g4 with
      | slnil k t ht => simp at hpos
      | sl k cs t' b off len cap f hk' hlen' hcap hst hx hr ht => exact Inv.tokw_of g3 (ht t1 rfl).1
variable {e : Env} {d : Option Nat} {T : TypeId} {pos : String} {after : Array Edge} {g : Option (Nat × Bool)} {x y : Operand}
theorem pT {l m : List UInt8} {t : Nat} {El T2 T3 bytes : Nat} {D2 : TypeDesc} (i : Nat) (hT : P.underlying T = some (.slice El)) (hT2 : P.underlying T2 = some D2) (hD2 : fj D2 = false) (hE : cH P El = some (1, bytes))
    (hx : opv e x = slE Enc.byte l (some t)) (hy : opv e y = S m) (hA : A[i]? = some (.tokw t)) (hb : (l.length + m.length) * bytes ≤ 140737488355328) (hs : l.length + m.length ≤ 140737488355328) :
    OpX P ⟨d, .call ⟨.builtin .append, #[x, y], #[T, T2]⟩, T3, pos, after, g⟩ e A (fun av A' => ∃ t', av = slE Enc.byte (l ++ m) (some t') ∧ A' = A.set i (.tokw t')) := fun F I w ρ hI hρ => by
  have e2 := bO (hy ▸ hρ y)
  obtain ⟨v', w', I', t', h1, h2, h3, h4⟩ := pv (ty := T3) (u := ρ y) hT hT2 hD2 hE (Nat.zero_lt_one) (hI.take_at hA) (hx ▸ hρ x) (Enc.byte.fl_length l) (by rw [e2]; exact te) (Enc.byte.fl_cell m) hb hs
  rw [← Enc.fl_append] at h4
  exact ⟨_, v', w', I', _, _, iE h1, .inl rfl, h2, ef hA h3, h4, t', rfl, rfl⟩
theorem ud {α : Type} {E : Enc α} {l m : List α} {t : Nat} {t2 : Option Nat} {El T2 T3 bytes : Nat} {D2 : TypeDesc} (i : Nat) (hT : P.underlying T = some (.slice El)) (hT2 : P.underlying T2 = some D2) (hD2 : fj D2 = false) (hE : cH P El = some (E.k, bytes))
    (hx : opv e x = slE E l (some t)) (hy : opv e y = slE E m t2) (hA : A[i]? = some (.tokw t)) (hb : (l.length + m.length) * bytes ≤ 140737488355328) (hs : l.length + m.length ≤ 140737488355328) :
    OpX P ⟨d, .call ⟨.builtin .append, #[x, y], #[T, T2]⟩, T3, pos, after, g⟩ e A (fun av A' => ∃ t', av = slE E (l ++ m) (some t') ∧ A' = A.set i (.tokw t')) := fun F I w ρ hI hρ => by
  obtain ⟨v', w', I', t', h1, h2, h3, h4⟩ := pv (ty := T3) hT hT2 hD2 hE E.pos (hI.take_at hA) (hx ▸ hρ x) (E.fl_length l) (tw (hy ▸ hρ y)) (E.fl_cell m) hb hs
  rw [← E.fl_append] at h4
  exact ⟨_, v', w', I', _, _, iE h1, .inl rfl, h2, ef hA h3, h4, t', rfl, rfl⟩
end
section
variable {P : Program} {f : FuncId}
end
section
variable {P : Program}
theorem ul {I : Info} {A : List Chunk} {w : World} {El : Nat} (hI : Inv I A w) :
    ∃ I' t, Ext I w I' (w.alloc (.cells #[] El)) ∧ Inv I' (.tokw t :: A) (w.alloc (.cells #[] El)) ∧ Rel I' (w.alloc (.cells #[] El)) (slE Enc.byte [] (some t)) (.slice (some ⟨w.heap.size, 0, none⟩) 0 0) := by
  obtain ⟨t, X, hI'⟩ := hI.new_tok (w' := w.alloc (.cells #[] El)) (n := 0) (c := 0) (arr := []) (g := w.heap.size) (E := El) (fz := (0, 0)) ((Below.refl _ _).alloc (Nat.le_refl _) _) (Nat.le_refl _) (cc _ _) (.inl rfl) rfl (Nat.le_refl _);refine ⟨_, t, X, hI'.tokw_of (b := w.heap.size) (n := 0) (c := 0) (by simp [Info.putTok]), ?_⟩
  unfold slE
  exact .sl 1 _ (some t) _ 0 0 0 (fun _ => undef) (by decide) (by simp [Enc.fl]) (Nat.le_refl _) (fun m hm => by simp only [Info.putTok, if_true, Option.some.injEq] at hm; simp [Enc.fl]) (fun j hj => by simp [Enc.fl] at hj) (fun j hj => by simp [Enc.fl] at hj) (fun t' e => by cases e; exact ⟨by simp [Info.putTok, Enc.fl], rfl⟩)
theorem join_nil (ls : List (List UInt8)) : Go.Lib.join ls [] = ls.flatten := by
  unfold Go.Lib.join List.intercalate
  induction ls with
  | nil => rfl
  | cons a r ih =>
    cases r with
    | nil => simp [List.intersperse]
    | cons b r => simp only [List.intersperse_cons_cons, List.flatten_cons, List.nil_append] at ih ⊢; rw [ih]
theorem xn (ls : List (List UInt8)) : Go.Lib.lens ls = ls.flatten.length := by
  simp [Go.Lib.lens, List.length_flatten]
theorem xi {ls : List (List UInt8)} (h : qf ls = true) : (ls = [] ∨ ls.flatten ≠ []) ∧ ls.flatten.length ≤ 1000000000 ∧ ls.length ≤ 1000000000 := by
  simp only [qf, Bool.and_eq_true, decide_eq_true_eq, Bool.or_eq_true, Bool.not_eq_true', List.isEmpty_iff] at h
  refine ⟨h.1.1.imp id fun h e => ?_, h.1.2, h.2⟩
  rw [e] at h; cases h
variable {e : Env} {d : Option Nat} {T : TypeId} {pos : String} {after : Array Edge} {g : Option (Nat × Bool)} {x y : Operand} {A : List Chunk}
theorem ne {l m u : List UInt8} {t : Nat} {El T2 T3 bytes : Nat} {D2 : TypeDesc} (i : Nat) (hT : P.underlying T = some (.slice El)) (hT2 : P.underlying T2 = some D2) (hD2 : fj D2 = false) (hE : cH P El = some (1, bytes)) (hb : Nat.ble bytes 1000 = true)
    (hx : opv e x = slE Enc.byte l (some t)) (hy : opv e y = S m) (hA : A[i]? = some (.tokw t)) (hg : bt (l.length + m.length) = true) (he : l ++ m = u) :
    OpX P ⟨d, .call ⟨.builtin .append, #[x, y], #[T, T2]⟩, T3, pos, after, g⟩ e A (fun av A' => ∃ t', av = slE Enc.byte u (some t') ∧ A' = A.set i (.tokw t')) := by
  subst he
  have h1 := lO hg
  have h2 := ai hb
  have h3 : (l.length + m.length) * bytes ≤ 100000000000 * 1000 := Nat.mul_le_mul h1 h2
  exact pT i hT hT2 hD2 hE hx hy hA (by omega) (by omega)
theorem xp {α : Type} {E : Enc α} {l m u : List α} {t : Nat} {t2 : Option Nat} {El T2 T3 bytes : Nat} {D2 : TypeDesc} (i : Nat) (hT : P.underlying T = some (.slice El)) (hT2 : P.underlying T2 = some D2) (hD2 : fj D2 = false) (hE : cH P El = some (E.k, bytes)) (hb : Nat.ble bytes 1000 = true)
    (hx : opv e x = slE E l (some t)) (hy : opv e y = slE E m t2) (hA : A[i]? = some (.tokw t)) (hg : bt (l.length + m.length) = true) (he : l ++ m = u) :
    OpX P ⟨d, .call ⟨.builtin .append, #[x, y], #[T, T2]⟩, T3, pos, after, g⟩ e A (fun av A' => ∃ t', av = slE E u (some t') ∧ A' = A.set i (.tokw t')) := by
  subst he
  have h1 := lO hg
  have h2 := ai hb
  have h3 : (l.length + m.length) * bytes ≤ 100000000000 * 1000 := Nat.mul_le_mul h1 h2
  exact ud i hT hT2 hD2 hE hx hy hA (by omega) (by omega)
end
end Go.Av
namespace Go.Av
open Go.RowKit Go.Pv
section
variable {P : Program} {I : Info} {w : World} {e : Env} {d : Option Nat} {T : TypeId} {pos : String} {after : Array Edge} {g : Option (Nat × Bool)} {x y : Operand} {A : List Chunk}
theorem pF {p q : Nat → Option (Nat × Nat)} : ∀ (parts : List (Nat × Value)) (cs : Array Value), (∀ r ∈ parts, p r.1 = q r.1) → Instr.fill p cs parts = Instr.fill q cs parts
  | [], _, _ => rfl
  | (i, v) :: rest, cs, h => by
    have h0 := h (i, v) (List.mem_cons_self ..)
    simp only at h0
    have ih := fun cs => pF (p := p) (q := q) rest cs (fun r hr => h r (List.mem_cons_of_mem _ hr))
    simp only [Instr.fill, h0]
    cases q i with
    | none => rfl
    | some r => simp only [ih]
theorem sZ {El bytes k n : Nat} {parts : Array (Nat × Operand)} {zs : List Value} {cs : List AV} {T2 : TypeId} {ρ : Operand → Value} (hT : P.underlying T = some (.slice El)) (hE : cH P El = some (k, bytes)) (hz : zeroCells P El = some zs) (hn : Nat.ble (n * k) 16777216 = true)
    (hok : th e parts.toList = true) (hi : (parts.toList.all fun p => Nat.blt p.1 n) = true) (hf : rh ((List.range n).map fun i => (i * k, k)) ((eT zs (n * k)).map AV.v) (parts.toList.map fun p => (p.1, opv e p.2)) = some cs) (hρ : ∀ x, Rel I w (opv e x) (ρ x)) :
    ∃ ys : List Value, (execOp ρ ⟨d, .buildSlice T n parts, T2, pos, after, g⟩).run P w = .ok (.value (.slice (some ⟨w.heap.size, 0, none⟩) n n)) (w.alloc (.cells ys.toArray El)) ∧ RelL I w cs ys := by
  obtain ⟨i, z, hin, hzi, hzs, hsz, hby⟩ := dZ hE
  have hcz : bH P El = some k := by simp only [bH, hin, Option.map_some, hsz]
  have hzz : zs = z.cells.toList := by
    simp only [zeroCells, hin, Option.bind_some, hzi, Option.map_some, Option.some.injEq] at hz
    exact hz.symm
  have hti : (typeInfo El).run P w = .ok i w := by simp [typeInfo, program, hin, Sem.run]
  have hzv : (zeroValue El).run P w = .ok z w := by simp only [zeroValue, Sem.run_bind, hti, Result.andThen_ok, hzi, Sem.run_pure]
  obtain ⟨ys, hy, hyr⟩ := ra (I := I) (w := w) ((List.range n).map fun i => (i * k, k)) (parts.toList.map fun p => (p.1, opv e p.2)) (parts.toList.map fun p => (p.1, ρ p.2)) _ _ cs (by simp) (fun j hj => by
    have hj' : j < parts.toList.length := by simpa using hj
    simp only [List.getElem_map, List.map_map, List.getD, List.getElem?_map, aK hj', Option.map_some, Option.getD_some, Function.comp]
    refine kU (hρ _) ?_
    have h := List.all_eq_true.1 hok _ (List.getElem_mem hj')
    cases hc : cP (opv e parts.toList[j].2) with
    | true => exact .inl rfl
    | false => rw [hc, Bool.false_or] at h; exact .inr (wJ h)) (jy (eT zs (n * k))) hf
  refine ⟨ys, ?_, hyr⟩
  have hpm : (parts.map fun (i, x) => (i, ρ x)).toList = parts.toList.map fun p => (p.1, ρ p.2) := by simp
  have hfill : Instr.fill (fun i => some (i * k, k)) (eT zs (n * k)).toArray (parts.map fun (i, x) => (i, ρ x)).toList = some ys.toArray := by
    rw [hpm, ← hy]
    refine pF _ _ fun r hr => ?_
    obtain ⟨p, hp, rfl⟩ := List.mem_map.1 hr
    have hlt : p.1 < n := by
      have := List.all_eq_true.1 hi p hp
      exact ai this
    simp [hlt]
  have hle := ai hn
  have hz0 : (if n * k = 0 then (pure #[] : Sem (Array Value)) else do pure (← zeroValue El).cells).run P w = .ok (if n * k = 0 then #[] else z.cells) w := by
    split
    · rfl
    · simp only [Sem.run_bind, hzv, Result.andThen_ok, Sem.run_pure]
  have hrow : (Array.range (n * k)).map ((if n * k = 0 then #[] else z.cells)[· % (if n * k = 0 then #[] else z.cells).size]!) = (eT zs (n * k)).toArray := by
    by_cases h0 : n * k = 0
    · simp [h0, eT]
    · simp only [if_neg h0]
      have hk0 : 0 < z.cells.size := by
        rw [hzs]
        rcases Nat.eq_zero_or_pos k with h | h
        · rw [h, Nat.mul_zero] at h0; exact absurd rfl h0
        · exact h
      apply Array.ext'
      simp only [Array.toList_map, Array.toList_range, eT, List.toList_toArray, hzz, Array.length_toList]
      refine List.map_congr_left fun j _ => ?_
      have hj : j % z.cells.size < z.cells.size := Nat.mod_lt _ hk0
      simp [List.getD, hj]
  simp only [execOp, Instr.buildSlice, Sem.run_bind, run_underlying hT, Result.andThen_ok, bM hcz, Sem.run_pure]
  rw [if_neg (by omega)]
  have hfill2 : Instr.fill (fun i => some (i * k, k)) (eT zs (n * k)).toArray (parts.map fun x => (x.1, ρ x.2)).toList = some ys.toArray := hfill
  by_cases h0 : n * k = 0
  · rw [if_pos h0] at hrow
    rw [if_pos h0]
    simp only [Sem.run_bind, Sem.run_pure, Result.andThen_ok]
    rw [hrow]
    simp only [hfill2, newRow, Sem.run_bind, run_newObj_alloc, Result.andThen_ok, Sem.run_pure]
  · rw [if_neg h0] at hrow
    rw [if_neg h0]
    simp only [Sem.run_bind, hzv, Sem.run_pure, Result.andThen_ok]
    rw [hrow]
    simp only [hfill2, newRow, Sem.run_bind, run_newObj_alloc, Result.andThen_ok, Sem.run_pure]
theorem jo {α : Type} {E : Enc α} {l : List α} {El bytes n : Nat} {parts : Array (Nat × Operand)} {zs : List Value} {T2 : TypeId} (hT : P.underlying T = some (.slice El)) (hE : cH P El = some (E.k, bytes)) (hz : zeroCells P El = some zs) (hn : Nat.ble (n * E.k) 16777216 = true)
    (hok : th e parts.toList = true) (hi : (parts.toList.all fun p => Nat.blt p.1 n) = true) (hl : l.length = n) (hf : rh ((List.range n).map fun i => (i * E.k, E.k)) ((eT zs (n * E.k)).map AV.v) (parts.toList.map fun p => (p.1, opv e p.2)) = some (E.fl l)) :
    OpR P ⟨d, .buildSlice T n parts, T2, pos, after, g⟩ e A (slE E l none) A := fun F I w ρ hI hρ => by
  obtain ⟨ys, hrun, hrl⟩ := sZ (d := d) (T2 := T2) (pos := pos) (after := after) (g := g) hT hE hz hn hok hi hf hρ
  have X := hI.new_still (.cells ys.toArray El)
  refine ⟨_, .slice (some ⟨w.heap.size, 0, none⟩) n n, _, _, hrun, .inl rfl, X, hI.alloc_still _, ?_⟩
  unfold slE
  refine .sl E.k (E.fl l) none _ 0 _ _ (fun j => ys.getD j undef) E.pos (by rw [E.fl_length, hl]) (Nat.le_refl _) ?_ ?_ (hrl.mono X).2 (fun t h => by cases h)
  · intro m hm; simp [Info.still] at hm
  · intro j hj
    have hj' : j < ys.length := by rw [hrl.1]; exact hj
    rw [Nat.zero_add]
    simp only [World.cell?, cc]
    simp only [Option.isSome_none, Bool.false_eq_true, if_false, List.getElem?_toArray, List.getD, aK hj', Option.getD_some]
end
theorem sC {P : Program} {o : Oper} {e : Env} {A A' : List Chunk} {av v : AV} (t : Nat) (hw : Wv (ev e t) v) (h : OpR P o ((t, v) :: e) A av A') : OpR P o e A av A' := fun F I w ρ hI hρ => h F I w ρ hI (fun x => by
  cases x with
  | tmp u =>
    show Rel I w (match Nat.beq t u with | true => v | false => ev e u) _
    cases hb : Nat.beq t u with
    | true =>
      have : t = u := Nat.eq_of_beq_eq_true hb
      subst this;exact hw.rel (hρ (.tmp t))
    | false => exact hρ (.tmp u)
  | const c => exact hρ (.const c)
  | global g => exact hρ (.global g)
  | func f => exact hρ (.func f))
end Go.Av
namespace Go.Av
open Go.RowKit
theorem tabIs_of {P : Program} {I : Info} {A : List Chunk} {w : World} (hI : Inv I A w) {name : String} {g : Nat} {k : IntKind} {zs : List Int} (hn : P.globalNamed name = some g) (hG : G g = some [.tb (zs.map fun z => Value.int k z)]) : Go.Lib.TabIs P w name k zs := by
  have h : Rel I w (.tb _) _ := hI.glob g _ hG
  cases h with
  | tb _ _ E fz hb hst =>
    unfold Go.Lib.TabIs World.var?
    rw [hn]
    simp [hb]
theorem rel_tab {P : Program} {W : World} {name : String} {g : Nat} {k : IntKind} {zs : List Int} (hn : P.globalNamed name = some g) (h : Go.Lib.TabIs P W name k zs) : Rel (Info.start W) W (gv [.tb (zs.map fun z => Value.int k z)]) (.pointer (some ⟨g, 0, none⟩)) := by
  unfold Go.Lib.TabIs World.var? at h
  rw [hn] at h
  simp only [Option.bind_some] at h
  split at h
  · rename_i cs E fz hb
    cases h
    have hlt := (Array.getElem?_eq_some_iff.1 hb).1
    refine .tb _ g E fz hb ?_
    simp only [Info.start]
    rw [if_pos hlt]
  · cases h
end Go.Av
namespace Go.Av
open Go.RowKit Go.Pv
section
variable {P : Program} {N : Nat}
theorem qL {fn : Func} {t u z y : Nat} {e : Env} {ds : List ADef} {A : List Chunk} {av bv cv dv : AV} (hr : fn.results = #[.tmp t, .tmp u, .tmp z, .tmp y]) (h : Wv (ev e t) av) (h2 : Wv (ev e u) bv) (h3 : Wv (ev e z) cv) (h4 : Wv (ev e y) dv) : ResV P fn N ⟨e, ds, A⟩ (.tup [av, bv, cv, dv]) := fun F I w a hI hS =>
  ⟨.tuple #[a.tmps.getD t undef, a.tmps.getD u undef, a.tmps.getD z undef, a.tmps.getD y undef], by simp [results, hr], .tup _ [_, _, _, _] rfl (cX (h.rel (hS.env t)) (cX (h2.rel (hS.env u)) (cX (h3.rel (hS.env z)) (cX (h4.rel (hS.env y)) eJ)))).2⟩
variable {e : Env} {d : Option Nat} {T : TypeId} {pos : String} {after : Array Edge} {g : Option (Nat × Bool)} {x y : Operand}
theorem xq {α : Type} {E : Enc α} {l m u : List α} {A : List Chunk} {t : Nat} {c : Chunk} {t2 : Option Nat} {El T2 T3 bytes : Nat} {D2 : TypeDesc} (i : Nat) (hc : c = .tokw t ∨ c = .tok t El) (hT : P.underlying T = some (.slice El)) (hT2 : P.underlying T2 = some D2) (hD2 : fj D2 = false) (hE : cH P El = some (E.k, bytes)) (hb : Nat.ble bytes 1000 = true)
    (hx : opv e x = slE E l (some t)) (hy : opv e y = slE E m t2) (hA : A[i]? = some c) (hg : bt (l.length + m.length) = true) (he : l ++ m = u) :
    OpX P ⟨d, .call ⟨.builtin .append, #[x, y], #[T, T2]⟩, T3, pos, after, g⟩ e A (fun av A' => ∃ t' c', (c' = .tokw t' ∨ c' = .tok t' El) ∧ av = slE E u (some t') ∧ A' = A.set i c') := by
  rcases hc with rfl | rfl
  · intro F I w ρ hI hρ
    obtain ⟨n, v, w', I', av, A', h1, h2, h3, h4, h5, t', h6, h7⟩ := xp (d := d) (pos := pos) (after := after) (g := g) (T3 := T3) i hT hT2 hD2 hE hb hx hy hA hg he F I w ρ hI hρ;exact ⟨n, v, w', I', av, A', h1, h2, h3, h4, h5, t', _, .inl rfl, h6, h7⟩
  · intro F I w ρ hI hρ
    obtain ⟨n, v, w', I', av, A', h1, h2, h3, h4, h5, t', h6, h7⟩ := cE (d := d) (pos := pos) (after := after) (g := g) (T3 := T3) i hT hT2 hD2 hE hb hx hy hA hg he F I w ρ hI hρ;exact ⟨n, v, w', I', av, A', h1, h2, h3, h4, h5, t', _, .inr rfl, h6, h7⟩
end
end Go.Av
namespace Go.Av
open Go.RowKit
section
variable {P : Program} {A : List Chunk} {e : Env} {x y z : Operand} {d : Option Nat} {pos : String} {after : Array Edge} {g : Option (Nat × Bool)} {f : FuncId} {fn : Func} {ts : Array TypeId} {T2 : TypeId}
structure Ext0 (P : Program) (f : FuncId) (fn : Func) (ext : Array Value → Sem Value) : Prop where
  hf : P.funcs[f]? = some fn
  nm : (fn.name == "runtime.NumGoroutine") = false
  nb : fn.body.isNone = true
  nn : Extern.findNext fn = none
  he : Extern.find fn = some ext
theorem jA {I : Info} {w w' : World} {ρ : Operand → Value} {args : Array Operand} {r : Next} (hρ : ∀ x, Rel I w (opv e x) (ρ x)) (h : (callFunc f (args.map ρ)).run P w = .ok r w') :
    (execOp ρ ⟨d, .call ⟨.value (.func f), args, ts⟩, T2, pos, after, g⟩).run P w = .ok r w' := by
  have h0 := bO (hρ (.func f))
  simp only [execOp, resolve, h0, Deferred.ofValue, Sem.run_bind, Sem.run_pure, Result.andThen_ok, invoke]
  simp only [Array.empty_append, Array.append_empty]
  exact h
theorem oJ {I : Info} {w : World} {F : List Chunk} {o off i b : Nat} {cs : List AV} {k : IntKind} {n : Int} (hI : Inv I (A ++ F) w) (hA : A[i]? = some (.obj o cs)) (hc : cs[off]? = some (.v (.int k n))) (ho : I.obj o = some b) :
    w.cell? ⟨b, off, none⟩ = some (.int k n) ∧ w.frozen? ⟨b, off, none⟩ = false := by
  obtain ⟨b', arr, ho', he, hca, hrl⟩ := hI.holds _ (gY hA F)
  rw [ho] at ho'; cases ho'
  have hlt : off < cs.length := (List.getElem?_eq_some_iff.1 hc).1
  have hlt' : off < arr.length := by rw [hrl.1]; exact hlt
  have h0 : w.cell? ⟨b, off, none⟩ = some (arr.getD off undef) := by rw [hca.cell]; simp [List.getD, hlt']
  have hr := hrl.2 off hlt
  rw [(List.getElem?_eq_some_iff.1 hc).2] at hr
  rw [bO hr] at h0
  exact ⟨h0, hca.free hlt'⟩
theorem sP {o off i : Nat} {cs : List AV} {k : IntKind} {n : Int} (h : Ext0 P f fn (Extern.Atomic.loadT (.int k))) (hx : opv e x = .pt o off) (hA : A[i]? = some (.obj o cs)) (hc : cs[off]? = some (.v (.int k n))) :
    OpR P ⟨d, .call ⟨.value (.func f), #[x], ts⟩, T2, pos, after, g⟩ e A (.v (.int k n)) A := fun F I w ρ hI hρ => by
  have hp := hx ▸ hρ x
  generalize e1 : ρ x = v at hp
  cases hp with
  | pt o off b ho =>
    obtain ⟨h1, _⟩ := oJ hI hA hc ho;refine ⟨_, _, w, I, jA hρ ?_, .inl rfl, bU _ _, hI, .v _⟩
    rw [show (#[x].map ρ) = #[ρ x] by simp, e1]
    exact run_call_load h.hf h.nm h.nb h.nn k h.he h1
theorem rJ {o off i : Nat} {cs : List AV} {k k' : IntKind} {n m : Int} (h : Ext0 P f fn Extern.Atomic.storeT) (hx : opv e x = .pt o off) (hy : opv e y = .v (.int k' m)) (hA : A[i]? = some (.obj o cs)) (hc : cs[off]? = some (.v (.int k n))) :
    OpR P ⟨d, .call ⟨.value (.func f), #[x, y], ts⟩, T2, pos, after, g⟩ e A (.tup []) (A.set i (.obj o (cs.set off (.v (.int k' m))))) := fun F I w ρ hI hρ => by
  have hp := hx ▸ hρ x
  have hv := bO (hy ▸ hρ y)
  generalize e1 : ρ x = v at hp
  cases hp with
  | pt o off b ho =>
    obtain ⟨h1, h2⟩ := oJ hI hA hc ho
    have hI2 := hI.take_at hA
    obtain ⟨E, hI3⟩ := hI2.set_obj ho off (Rel.v (I := I) (w := w) (.int k' m));refine ⟨_, .tuple #[], _, I, jA hρ ?_, .inl rfl, E, ef hA hI3, .tup [] [] rfl (fun j h => absurd h (Nat.not_lt_zero _))⟩
    rw [show (#[x, y].map ρ) = #[ρ x, ρ y] by simp, e1, hv]
    exact run_call_store h.hf h.nm h.nb h.nn h.he h1 h2
theorem uf {o off i : Nat} {cs : List AV} {k : IntKind} {n m : Int} (h : Ext0 P f fn (Extern.Atomic.casT (.int k))) (hx : opv e x = .pt o off) (hy : opv e y = .v (.int k n)) (hz : opv e z = .v (.int k m)) (hA : A[i]? = some (.obj o cs)) (hc : cs[off]? = some (.v (.int k n))) :
    OpR P ⟨d, .call ⟨.value (.func f), #[x, y, z], ts⟩, T2, pos, after, g⟩ e A (B true) (A.set i (.obj o (cs.set off (.v (.int k m))))) := fun F I w ρ hI hρ => by
  have hp := hx ▸ hρ x
  have hv := bO (hy ▸ hρ y)
  have hu := bO (hz ▸ hρ z)
  generalize e1 : ρ x = v at hp
  cases hp with
  | pt o off b ho =>
    obtain ⟨h1, h2⟩ := oJ hI hA hc ho
    have hI2 := hI.take_at hA
    obtain ⟨E, hI3⟩ := hI2.set_obj ho off (Rel.v (I := I) (w := w) (.int k m));refine ⟨_, .bool true, _, I, jA hρ ?_, .inl rfl, E, ef hA hI3, .v _⟩
    rw [show (#[x, y, z].map ρ) = #[ρ x, ρ y, ρ z] by simp, e1, hv, hu]
    exact run_call_cas_hit h.hf h.nm h.nb h.nn k h.he h1 h2
theorem ug {o off i : Nat} {cs : List AV} {k : IntKind} {n m s : Int} (h : Ext0 P f fn (Extern.Atomic.update (Op.intArith .add) k true)) (hx : opv e x = .pt o off) (hy : opv e y = .v (.int k m)) (hA : A[i]? = some (.obj o cs)) (hc : cs[off]? = some (.v (.int k n)))
    (hs : k.wrap (n + m) = s) :
    OpR P ⟨d, .call ⟨.value (.func f), #[x, y], ts⟩, T2, pos, after, g⟩ e A (.v (.int k s)) (A.set i (.obj o (cs.set off (.v (.int k s))))) := fun F I w ρ hI hρ => by
  have hp := hx ▸ hρ x
  have hv := bO (hy ▸ hρ y)
  generalize e1 : ρ x = v at hp
  cases hp with
  | pt o off b ho =>
    obtain ⟨h1, h2⟩ := oJ hI hA hc ho
    have hI2 := hI.take_at hA
    obtain ⟨E, hI3⟩ := hI2.set_obj ho off (Rel.v (I := I) (w := w) (.int k s));refine ⟨_, _, _, I, jA hρ ?_, .inl rfl, E, ef hA hI3, .v _⟩
    rw [show (#[x, y].map ρ) = #[ρ x, ρ y] by simp, e1, hv]
    exact run_call_add h.hf h.nm h.nb h.nn k h.he h1 h2 (by subst hs; rfl)
theorem mG (m : Mark) (h : Ext0 P f fn (fun _ => do mark m; pure Extern.Race.none_)) : OpR P ⟨d, .call ⟨.value (.func f), #[], ts⟩, T2, pos, after, g⟩ e A (.tup []) A := fun F I w ρ hI hρ =>
  ⟨_, .tuple #[], w, I, jA hρ (by rw [show (#[].map ρ) = #[] by simp]; exact run_call_mark0 h.hf h.nm h.nb h.nn m h.he w), .inl rfl, bU _ _, hI, .tup [] [] rfl (fun j h => absurd h (Nat.not_lt_zero _))⟩
theorem rY {o off : Nat} (m : Addr → Mark) (h : Ext0 P f fn (Extern.Race.marked m)) (hx : opv e x = .pt o off) : OpR P ⟨d, .call ⟨.value (.func f), #[x], ts⟩, T2, pos, after, g⟩ e A (.tup []) A := fun F I w ρ hI hρ => by
  have hp := hx ▸ hρ x
  generalize e1 : ρ x = v at hp
  cases hp with
  | pt o off b ho =>
    refine ⟨_, .tuple #[], w, I, jA hρ ?_, .inl rfl, bU _ _, hI, .tup [] [] rfl (fun j h => absurd h (Nat.not_lt_zero _))⟩
    rw [show (#[x].map ρ) = #[ρ x] by simp, e1]
    exact run_call_marked h.hf h.nm h.nb h.nn m h.he _ w
theorem oe {S T t : TypeId} {o off i : Nat} {cs : List AV} {k : IntKind} {n : Int} (hs : P.underlying S = some (.pointer t)) (hd : P.underlying T = some .unsafePointer) (hsz : (P.info? t).map (fun i => decide (i.size = 0)) = some false)
    (hx : opv e x = .pt o off) (hA : A[i]? = some (.obj o cs)) (hc : cs[off]? = some (.v (.int k n))) : OpR P ⟨d, .convert S T x, T2, pos, after, g⟩ e A (.pt o off) A := fun F I w ρ hI hρ => by
  have hp := hx ▸ hρ x
  generalize e1 : ρ x = v at hp
  cases hp with
  | pt o off b ho =>
    obtain ⟨h1, _⟩ := oJ hI hA hc ho;refine ⟨.value (.pointer (some ⟨b, off, none⟩)), _, w, I, ?_, .inl rfl, bU _ _, hI, .pt o off b ho⟩
    simp only [execOp, e1, Sem.run_bind, run_convert_to_unsafe hs hd hsz h1, Result.andThen_ok, Sem.run_pure]
end
end Go.Av
namespace Go.Av
open Go.RowKit Go.Pv
section
variable {P : Program} {A : List Chunk} {e : Env} {x y z : Operand} {d : Option Nat} {pos : String} {after : Array Edge} {g : Option (Nat × Bool)} {T T' T2 : TypeId} {av av' : AV} {o : Oper}
theorem rb (h : OpS P o e av) (hw : ∀ I w v, Rel I w av v → Rel I w av' v) : OpS P o e av' := fun I w ρ hρ => let ⟨v, hv, k⟩ := h I w ρ hρ; ⟨v, hw I w v hv, k⟩
theorem OpX.still {α : Type} {E : Enc α} {l : List α} {El : TypeId} (h : OpX P o e A (fun av A' => ∃ t, av = slE E l (some t) ∧ A' = .tok t El :: A)) : OpR P o e A (slE E l none) A := fun F I w ρ hI hρ => by
  obtain ⟨n, v, w', I', av, A', a, b, c, hI', hr, t, rfl, rfl⟩ := h F I w ρ hI hρ;exact ⟨n, v, w', I', a, b, c, hI'.sub (List.sublist_cons_self ..), (Wv.tok _ _ _).rel hr⟩
def ob : Option (List UInt8) → AV
  | none => ah
  | some l => slE Enc.byte l none
def Enc.ob : Enc (Option (List UInt8)) := ⟨1, fun z => [Go.Av.ob z], by decide, fun _ => rfl, fun z c h => by simp at h; subst h; cases z <;> rfl⟩
theorem ob_sl (z : Option (List UInt8)) (I : Info) (w : World) (v : Value) (h : Rel I w (ob z) v) : Rel I w (slE Enc.byte (z.getD []) none) v := by
  cases z with
  | some l => exact h
  | none =>
    have := bO h
    subst this;exact .slz _ _ _
theorem qC {op : BinOp} {a b : Option Addr} {l c m n : Nat} (w : World) : (eqGuard op T x y (.slice a l c) (.slice b m n)).run P w = .ok () w := by
  unfold eqGuard
  cases op <;> rfl
theorem om {El : TypeId} {a : Option Addr} {l c : Nat} (hT : P.underlying T = some (.slice El)) (w : World) : (Op.equal T (.slice a l c) (.slice none 0 0)).run P w = .ok a.isNone w := by
  unfold Op.equal
  rw [show Op.maxDepth = 9999 + 1 from rfl, Op.equalIn]
  simp only [Sem.run_bind, run_underlying hT, Result.andThen_ok]
  cases a <;> rfl
theorem nA {op : BinOp} {El : TypeId} {z : Option (List UInt8)} (hop : op = .eql ∨ op = .neq) (hT : P.underlying T = some (.slice El)) (hx : opv e x = ob z) (hy : opv e y = ah) (hz : decide (z ≠ some []) = true) :
    OpS P ⟨d, .binOp op T x y T', T2, pos, after, g⟩ e (B (if op = .eql then z.isNone else !z.isNone)) := fun I w ρ hρ => by
  have h1 := hx ▸ hρ x
  have h2 := bO (hy ▸ hρ y)
  have key : ∃ a l c, ρ x = .slice a l c ∧ a.isNone = z.isNone := by
    cases z with
    | none => exact ⟨none, 0, 0, bO h1, rfl⟩
    | some l =>
      obtain ⟨a, cap, xs, e1, _, _, hor⟩ := iU h1;refine ⟨a, _, cap, e1, ?_⟩
      rcases hor with h0 | ⟨b, off, e2, _⟩
      · have : l = [] := List.eq_nil_of_length_eq_zero h0
        subst this
        simp at hz
      · rw [e2]; rfl
  obtain ⟨a, l, c, e1, ha⟩ := key;refine ⟨.bool (if op = .eql then z.isNone else !z.isNone), .v _, fun w' _ _ => ?_⟩
  rcases hop with rfl | rfl
  · simp only [execOp, e1, h2, Sem.run_bind, qC, Result.andThen_ok, binOp, om hT, Sem.run_pure, ha, if_true]
  · simp only [execOp, e1, h2, Sem.run_bind, qC, Result.andThen_ok, binOp, om hT, Sem.run_pure, ha]
    rfl
theorem ky {op : BinOp} {El : TypeId} (hop : op = .eql ∨ op = .neq) (hT : P.underlying T = some (.slice El)) (hx : opv e x = ah) (hy : opv e y = ah) :
    OpS P ⟨d, .binOp op T x y T', T2, pos, after, g⟩ e (B (if op = .eql then true else false)) := by
  have := nA (P := P) (d := d) (pos := pos) (after := after) (g := g) (T' := T') (T2 := T2) (z := none) hop hT (hx.trans rfl) hy (by decide)
  rcases hop with rfl | rfl <;> exact this
theorem uj {o len cap : Nat} {q : IntKind} {n : Int} {El : TypeId} (hT : P.underlying T = some (.slice El)) (hsz : bH P El = some 1) (hx : opv e x = .vw o 0 len cap) (hy : opv e y = .v (.int q n)) (hg : decide (0 ≤ n ∧ n < len) = true) (hc : len ≤ cap) :
    OpS P ⟨d, .slice T x (some y) none none, T2, pos, after, g⟩ e (.vw o n.toNat (len - n.toNat) (cap - n.toNat)) := by
  obtain ⟨h1, h2⟩ := of_decide_eq_true hg
  have := nU (P := P) (d := d) (pos := pos) (after := after) (g := g) (T2 := T2) (k := 1) (lo := n.toNat) hT hsz hx hy (Int.toNat_of_nonneg h1).symm (by omega) (by omega) (by omega)
  rw [Nat.zero_add, Nat.mul_one] at this
  exact this
theorem vL {l m r : List UInt8} {o n lo len cap k : Nat} {El T3 : TypeId} (hT : P.underlying T = some (.slice El)) (hsz : bH P El = some 1) (hx : opv e x = .vw o lo len cap) (hy : opv e y = slE Enc.byte m none)
    (hA : A[k]? = some (.obj o (Enc.byte.fl l ++ List.replicate n .any))) (hg : decide (m.length ≤ len) = true) (hg2 : decide (lo + m.length ≤ l.length) = true) (hr : l.take lo ++ m ++ l.drop (lo + m.length) = r) :
    OpR P ⟨d, .call ⟨.builtin .copy, #[x, y], #[T, T2]⟩, T3, pos, after, g⟩ e A (i64 m.length) (A.set k (.obj o (Enc.byte.fl r ++ List.replicate n .any))) := by
  have h1 := of_decide_eq_true hg
  have h2 := of_decide_eq_true hg2
  have hl : (Enc.byte.fl l).length = l.length := by rw [Enc.fl_length]; exact Nat.mul_one _
  have hm : (Enc.byte.fl m).length = m.length := by rw [Enc.fl_length]; exact Nat.mul_one _
  have := fc (P := P) (d := d) (pos := pos) (after := after) (g := g) (T2 := T2) (T3 := T3) (A := A) hT (E := Enc.byte) hsz hx hy hA h1 (by rw [List.length_append, hl]; show lo + m.length * 1 ≤ _; omega)
  have e1 : fS (Enc.byte.fl l ++ List.replicate n .any) lo (Enc.byte.fl m) = Enc.byte.fl r ++ List.replicate n .any := by
    have f1 : ∀ q : List UInt8, Enc.byte.fl q = q.map u8 := fun q => by
      induction q with
      | nil => rfl
      | cons a q ih => rw [dQ, ih]; rfl
    subst hr
    unfold fS
    simp only [f1, List.map_append, List.map_take, List.map_drop, List.length_map]
    rw [List.take_append_of_le_length (by simp; omega), List.drop_append_of_le_length (by simp; omega)]
    simp
  rw [e1] at this
  exact this
end
theorem AO.invoke {P : Program} {N : Nat} {Q : eH} {ro : Option Nat} {ops : Array Oper} {rest : List Nat} {d : Nat} {x : Operand} {nm : String} {f : FuncId} {t : TypeId} {args : Array Operand} {argTypes : Array TypeId} {T : TypeId} {pos : String} {after : Array Edge} {g : Option (Nat × Bool)} {e : Env} {ds : List ADef} {A A1 : List Chunk} (B : List Chunk)
    {R : AE → List Chunk → Prop} {rv : AV} {avs : List AV} (hd : Nat.blt d N = true) (hx : opv e x = .ifc t rv) (hm : ∀ v w, (method (P.types.size + Made.depth) t v nm).run P w = .ok (f, v) w) (hf : ∀ args w, (callFunc f args).run P w = .ok (.enter f args) w) (ha : args.toList.map (opv e) = avs)
    (h : ACalls P f (rv :: avs) A1 R) (p : A.Perm (A1 ++ B)) (k : ∀ av A', R (.ret av) A' → AR P ro N ops Q rest ⟨(d, av) :: e, ds, A' ++ B⟩)
    (kp : ∀ c A', R (.pan c) A' → Q (.panic c) ⟨e, ds, A' ++ B⟩) :
    AO P ro N ops Q rest ⟨some d, .call ⟨.invoke x nm, args, argTypes⟩, T, pos, after, g⟩ ⟨e, ds, A⟩ := fun F I w a hI hS => by
  have hS' := hS
  have hrl : RelL I w avs (args.toList.map a.eval) := by
    rw [← ha]; exact eK _ _ _ fun x _ => hS'.op x
  have hxr := hx ▸ hS'.op x
  generalize e1 : a.eval x = u at hxr
  cases hxr with
  | ifc _ _ y hy =>
  refine ⟨fun _ _ => dc _, ?_⟩
  have hex : (Oper.semAt (dd ro).round a.eval ⟨some d, .call ⟨.invoke x nm, args, argTypes⟩, T, pos, after, g⟩).run P w = .ok (.enter f (#[y] ++ args.map a.eval)) w := by
    rw [Oper.semAt_eq _ _ _ (fun c h => by cases h)]
    simp only [execOp, resolve, Sem.run_bind, Sem.run_pure, Result.andThen_ok, Go.invoke]
    have e0 : (#[a.eval x] ++ args.map a.eval)[0]? = some (.iface t y) := by rw [e1, Array.getElem?_append]; rfl
    have e2 : (#[a.eval x] ++ args.map a.eval).extract 1 (#[a.eval x] ++ args.map a.eval).size = args.map a.eval := by
      apply Array.ext'
      simp
      exact List.take_of_length_le (by simp)
    have e3 : Sem.run P program w = .ok P w := rfl
    simp only [e0, e2, callMethod, Sem.run_bind, e3, hm, Result.andThen_ok]
    exact hf _ _
  rw [hex]
  refine ⟨mS, AO.call.callsIn_wide'.2 ?_⟩
  have hI2 : Inv I (A1 ++ (B ++ F)) w := by rw [← List.append_assoc]; exact hI.perm (p.append_right F)
  have hc := h (B ++ F) I w _ hI2 (cX hy hrl)
  have he : (y :: args.toList.map a.eval).toArray = #[y] ++ args.map a.eval := by apply Array.ext'; simp
  rw [he] at hc
  refine hc.mono fun en w' ⟨I', ae, A', E, hI', hre, hR⟩ => ?_
  have hI3 : Inv I' ((A' ++ B) ++ F) w' := by rw [List.append_assoc]; exact hI'
  cases en with
  | returned v =>
    cases ae with
    | ret av =>
      have hk := k av A' hR F I' w' (a.put (some d) v) hI3 ((hS.mono E).put (ai hd) hre _)
      exact cG rest (fun _ _ _ => dK E fun _ _ h => h) _ _ hk
    | pan c => exact hre.elim
  | panicked c =>
    cases ae with
    | ret av => exact hre.elim
    | pan c' =>
      cases hre
      exact ⟨I', ⟨e, ds, A' ++ B⟩, E, hI3, ⟨hS.size, (hS.mono E).env, (hS.mono E).ds⟩, kp _ A' hR⟩
  | outgrown => cases ae <;> exact hre.elim
theorem AO.deferFn {P : Program} {N : Nat} {Q : eH} {ops : Array Oper} {rest : List Nat} {x : Operand} {f : Fn} {args : Array Operand} {argTypes : Array TypeId} {T : TypeId} {pos : String} {after : Array Edge} {g : Option (Nat × Bool)} {e : Env} {ds : List ADef} {A : List Chunk}
    (hx : opv e x = .v (.func f #[] #[])) (k : AR P none N ops Q rest ⟨e, .call f [] (args.toList.map (opv e)) :: ds, A⟩) :
    AO P none N ops Q rest ⟨none, .defer ⟨.value x, args, argTypes⟩, T, pos, after, g⟩ ⟨e, ds, A⟩ := fun F I w a hI hS => by
  have hS' := hS
  have hv := bO (hx ▸ hS'.op x)
  refine ⟨fun _ _ => dc _, ?_⟩
  have hex : (Oper.semAt (dd none).round a.eval ⟨none, .defer ⟨.value x, args, argTypes⟩, T, pos, after, g⟩).run P w = .ok (.defer { target := .fn f #[], args := (args.toList.map a.eval).toArray }) w := by
    rw [show (dd none).round = none from rfl, Oper.semAt_none]
    simp only [execOp, Sem.run_bind, kz hv, Result.andThen_ok, Sem.run_pure]
    congr 2
    congr 1
    apply Array.ext'; simp
  rw [hex]
  exact k F I w _ hI ⟨hS.size, hS.env, .cons (.call f [] _ [] _ eJ (eK _ _ _ fun x _ => hS'.op x)) hS.ds⟩
end Go.Av
namespace Go.Proofs.YtjegcifofddgbaaGreatDoor
open Go.RowKit Go.Av Go.Pv
theorem lZ (s p : List UInt8) : ACalls Tryz.prog 37 [S s, S p] [] (Ret (S (Go.Lib.trimPrefix s p)) []) := by
 refine cL fun I A w vs hI hv => ?_
 obtain ⟨v1, r1, rfl, h1, hv⟩ := hv.out_cons;obtain ⟨v2, r2, rfl, h2, hv⟩ := hv.out_cons
 rw [hv.out_nil, fv h1, fv h2]
 refine (Tryz.strings_TrimPrefix ⟨s.toArray⟩ ⟨p.toArray⟩ w).mono fun e w' ⟨he, hw⟩ => ⟨by simpa using he, hw ▸ Below.refl _ _⟩
theorem nd (s p : List UInt8) : ACalls Tryz.prog 185 [S s, S p] [] (Ret (.tup [S (Go.Lib.trimPrefix s p), B (Go.Lib.hasPrefix s p)]) []) := by
 refine jb (rs := [.string ⟨(Go.Lib.trimPrefix s p).toArray⟩, .bool (Go.Lib.hasPrefix s p)]) rfl fun I A w vs hI hv => ?_
 obtain ⟨v1, r1, rfl, h1, hv⟩ := hv.out_cons;obtain ⟨v2, r2, rfl, h2, hv⟩ := hv.out_cons
 rw [hv.out_nil, fv h1, fv h2]
 refine (Tryz.strings_CutPrefix ⟨s.toArray⟩ ⟨p.toArray⟩ w).mono fun e w' ⟨he, hw⟩ => ⟨by simpa using he, hw ▸ Below.refl _ _⟩
theorem np (fn s : List UInt8) (base bits : Int) (hs : s.length < 4294967281) : ACalls Tryz.prog 88 [S fn, S s, i64 base, i64 bits, .ifc 167 (i64 2)] [] (Ret (.ifc 170 .any) []) := by
 refine kR fun I A w vs hI hv => ?_
 obtain ⟨v1, r1, rfl, h1, hv⟩ := hv.out_cons;obtain ⟨v2, r2, rfl, h2, hv⟩ := hv.out_cons;obtain ⟨v3, r3, rfl, h3, hv⟩ := hv.out_cons;obtain ⟨v4, r4, rfl, h4, hv⟩ := hv.out_cons;obtain ⟨v5, r5, rfl, h5, hv⟩ := hv.out_cons
 rw [hv.out_nil, fv h1, fv h2, bO h3, bO h4, me h5]
 obtain ⟨ev, hc, hev⟩ := sd hI (g := 1) (r := []) rfl
 refine (Tryz.strconv_toError_syntax ⟨fn.toArray⟩ ⟨s.toArray⟩ base bits ev w (by simp [ByteArray.size]; omega) hc hev).mono fun e w' ⟨N, he, _, _, hb⟩ => ⟨_, he, fun _ _ => .ifc _ _ _ (.any _), hb⟩
theorem nV (fn s : List UInt8) (base bits : Int) (hs : s.length < 4294967281) : ACalls Tryz.prog 88 [S fn, S s, i64 base, i64 bits, .ifc 167 (i64 1)] [] (Ret (.ifc 170 .any) []) := by
 refine kR fun I A w vs hI hv => ?_
 obtain ⟨v1, r1, rfl, h1, hv⟩ := hv.out_cons;obtain ⟨v2, r2, rfl, h2, hv⟩ := hv.out_cons;obtain ⟨v3, r3, rfl, h3, hv⟩ := hv.out_cons;obtain ⟨v4, r4, rfl, h4, hv⟩ := hv.out_cons;obtain ⟨v5, r5, rfl, h5, hv⟩ := hv.out_cons
 rw [hv.out_nil, fv h1, fv h2, bO h3, bO h4, me h5]
 obtain ⟨ev, hc, hev⟩ := sd hI (g := 2) (r := []) rfl
 refine (Tryz.strconv_toError_range ⟨fn.toArray⟩ ⟨s.toArray⟩ base bits ev w (by simp [ByteArray.size]; omega) hc hev).mono fun e w' ⟨N, he, _, _, hb⟩ => ⟨_, he, fun _ _ => .ifc _ _ _ (.any _), hb⟩
theorem pB (fn s : List UInt8) (base bits n : Int) (hs : s.length < 4294967281) (hn : n = 1 ∨ n = 2) : ACalls Tryz.prog 88 [S fn, S s, i64 base, i64 bits, eg 167 .i64 n] [] (Ret (.ifc 170 .any) []) := by
 rcases hn with rfl | rfl
 ·exact nV fn s base bits hs
 ·exact np fn s base bits hs
theorem jp (s sub : List UInt8) (hs : s.length < 4294967281) : ACalls Tryz.prog 65 [S s, S sub] [] (Ret (B (Go.Lib.contains s sub)) []) := by
 refine cL fun I A w vs hI hv => ?_
 obtain ⟨v1, r1, rfl, h1, hv⟩ := hv.out_cons;obtain ⟨v2, r2, rfl, h2, hv⟩ := hv.out_cons
 rw [hv.out_nil, fv h1, fv h2]
 obtain ⟨m, hm⟩ := kW hI (g := 0) (k := .i64) (r := []) rfl
 refine (Tryz.strings_Contains ⟨s.toArray⟩ ⟨sub.toArray⟩ m w (by simpa [ByteArray.size] using hs) hm).mono fun e w' ⟨he, hw⟩ => ⟨by simpa using he, hw ▸ Below.refl _ _⟩
theorem sc (s : List UInt8) (c : UInt8) (hc : c.toNat < 128) (hs : s.length < 4294967281) : ACalls Tryz.prog 123 [S s, S [c]] [] (Ret (S (Go.Lib.trimB s c)) []) := by
 refine cL fun I A w vs hI hv => ?_
 obtain ⟨v1, r1, rfl, h1, hv⟩ := hv.out_cons;obtain ⟨v2, r2, rfl, h2, hv⟩ := hv.out_cons
 rw [hv.out_nil, fv h1, fv h2]
 refine (Tryz.strings_Trim_one ⟨s.toArray⟩ c hc w (by simp [ByteArray.size]; omega)).mono fun e w' ⟨he, hw⟩ => ⟨by simpa using he, ?_⟩
 rcases hw with rfl | rfl
 ·exact Below.refl _ _
 ·exact (Below.refl _ _).drew
theorem nW (a b : List UInt8) (t u : Option Nat) (hs : a.length < 4294967281) (h2 : 2 ≤ b.length) (hb : b.length < 4294967281) : ACalls Tryz.prog 128 [slE Enc.byte a t, slE Enc.byte b u] [] (Ret (B (Go.Lib.contains a b)) []) := by
 refine cL fun I A w vs hI hv => ?_
 obtain ⟨v1, r1, rfl, h1, hv⟩ := hv.out_cons;obtain ⟨v2, r2, rfl, h2', hv⟩ := hv.out_cons;obtain rfl := hv.out_nil;obtain ⟨a1, c1, rfl, hc1, hb1, hx1⟩ := mf h1;obtain ⟨a2, c2, rfl, hc2, hb2, hx2⟩ := mf h2'
 by_cases hlt : a.length < b.length
 ·refine (Tryz.bytes_Contains_longer a1 a2 a.length c1 b.length c2 w h2 hlt (by omega)).mono fun e w' ⟨he, hw⟩ => ⟨?_, hw ▸ Below.refl _ _⟩
  unfold Go.Lib.contains
  rw [he, Go.Lib.index_long (Nat.le_of_lt hlt) (fun e => by rw [e] at hlt; exact Nat.lt_irrefl _ hlt)]; rfl
 ·obtain ⟨m, hm⟩ := kW hI (g := 0) (k := .i64) (r := []) rfl;obtain ⟨b1, o1, rfl, g1⟩ := hx1 (by intro e; rw [e] at hlt; simp at hlt; rw [hlt] at h2; simp at h2);obtain ⟨b2, o2, rfl, g2⟩ := hx2 (by intro e; rw [e] at h2; simp at h2)
  refine (Tryz.bytes_Contains_at ⟨b1, o1, none⟩ ⟨b2, o2, none⟩ a.length c1 b.length c2 _ _ m w (Go.Lib.numsL_length _) (Go.Lib.numsL_length _) (Go.Lib.numsL_range _) (Go.Lib.numsL_range _) (fun i hi => by rw [cu]; exact g1 i hi) (fun i hi => by rw [cu]; exact g2 i hi) hc1 hs (by omega) hm).mono fun e w' ⟨he, q, hw⟩ => ⟨?_, hw ▸ Below.drewN _ _⟩
  rw [he, Go.Lib.bytesOf_numsL, Go.Lib.bytesOf_numsL]
theorem lY (ls : List (List UInt8)) (t : Option Nat) (h : qf ls = true) : ACalls Tryz.prog 80 [slE (Enc.sl Enc.byte) ls t, ah] [] (fun e A' => ∃ t', e = .ret (slE Enc.byte ls.flatten (some t')) ∧ A' = [.tokw t']) := fun F I w vs hI hv => by
 obtain ⟨v1, r1, rfl, h1, hv⟩ := hv.out_cons;obtain ⟨v2, r2, rfl, h2, hv⟩ := hv.out_cons;obtain rfl := hv.out_nil;obtain ⟨a, c, rfl, hc, hp⟩ := xg h1;obtain rfl := bO h2;obtain ⟨hne, hl1, hl2⟩ := xi h
 match ls, hne, hl1, hl2, hc, hp with
 | [], _, _, _, _, _ =>
  refine (Tryz.bytes_Join_none a c _ w).mono fun e w' ⟨he, hw⟩ => ?_
  subst he; subst hw
  obtain ⟨I', t', X, hI', hr⟩ := ul (El := 5) hI;exact ⟨I', .ret _, [.tokw t'], X, hI', hr, ⟨t', rfl, rfl⟩⟩
 | [l0], hne, hl1, _, _, hp =>
  obtain ⟨b, o, xs, rfl, hP⟩ := hp (by simp)
  have hne0 : l0 ≠ [] := by
   rcases hne with h | h
   ·cases h
   ·simpa using h
  obtain ⟨p0, c0, l, hl, hcell, hn, hby⟩ := hP.get 0 (by simp)
  simp at hl
  subst hl
  cases p0 with
  | none => exact absurd (hn rfl) hne0
  | some ad =>
   refine (Tryz.bytes_Join_one b o c ad c0 l0 _ w (by simpa [cu] using hcell) (hby ad rfl) (List.length_pos_iff.2 hne0) (by simp at hl1; omega)).mono fun e w' ⟨v', he, hf, hb⟩ => ?_
   subst he;obtain ⟨I', t', X, hI', hr⟩ := qB hI hb hf hne0;exact ⟨I', .ret _, [.tokw t'], X, hI', hr, ⟨t', by simp, rfl⟩⟩
 | l0 :: l1 :: r, hne, hl1, hl2, hc, hp =>
  obtain ⟨b, o, xs, rfl, hP⟩ := hp (by simp)
  have hne0 : (l0 :: l1 :: r).flatten ≠ [] := by
   rcases hne with h | h
   ·cases h
   ·exact h
  refine (Tryz.bytes_Join_many b o (l0 :: l1 :: r).length c xs (l0 :: l1 :: r) (.slice none 0 0) [] w rfl (by simp) hP hc ⟨none, 0, rfl, fun _ => rfl, fun a h => by cases h⟩ (by omega) (by rw [xn]; simp only [List.length_nil, Nat.zero_mul]; omega)).mono fun e w' ⟨v', he, hf, hb⟩ => ?_
  subst he
  rw [join_nil] at hf
  obtain ⟨I', t', X, hI', hr⟩ := qB hI hb hf hne0;exact ⟨I', .ret _, [.tokw t'], X, hI', hr, ⟨t', rfl, rfl⟩⟩
theorem iC (n : Int) (h : -9223372036854775808 ≤ n ∧ n ≤ 9223372036854775807) : ACalls Tryz.prog 58 [i64 n] [] (Ret (S (Go.Lib.itoa n)) []) := by
 refine cL fun I A w vs hI hv => ?_
 obtain ⟨v1, r1, rfl, h1, hv⟩ := hv.out_cons
 rw [hv.out_nil, bO h1]
 have ht : Go.Lib.TabIs Tryz.prog w "internal/strconv.uint64pow10" .u64 Go.Lib.pow10Tab := tabIs_of hI (g := 3) (by kernel_rfl) (by simp [G, Go.Lib.pow10Tab])
 refine (Tryz.strconv_Itoa n h.1 h.2 w ht).mono fun e w' ⟨he, k, os, hw⟩ => ⟨by simpa using he, ?_⟩
 rw [hw]; exact Go.Lib.below_grow _ w (Nat.le_refl _) k os
theorem qk (s p : List UInt8) (hs : s.length < 4294967281) : ACalls Tryz.prog 39 [S s, S p] [] (Ret (S (Go.Lib.trimSuffix s p)) []) := by
 refine cL fun I A w vs hI hv => ?_
 obtain ⟨v1, r1, rfl, h1, hv⟩ := hv.out_cons;obtain ⟨v2, r2, rfl, h2, hv⟩ := hv.out_cons
 rw [hv.out_nil, fv h1, fv h2]
 refine (Tryz.strings_TrimSuffix ⟨s.toArray⟩ ⟨p.toArray⟩ w (by simp [ByteArray.size]; omega)).mono fun e w' ⟨he, hw⟩ => ⟨by simpa using he, hw ▸ Below.refl _ _⟩
end Go.Proofs.YtjegcifofddgbaaGreatDoor
namespace Go.Pv
def wz (F : Nat) (a1 : Bool) : Option Int :=
bif a1 then
  some 1
else
  some 0
def wF (F : Nat) (a2 : Int) (a3 : Int) : Option Bool :=
some (!decide (a2 = 0))
def uT (F : Nat) (a4 : Bool) : Option Int :=
bnd (wz F a4) fun x6 =>
some x6
def qQ (F : Nat) : Option Unit :=
some ()
def im : Option Unit :=
some ()
def ik : Option Unit :=
im
def nr (F : Nat) (a2 : Int) : Option Unit :=
ik
def wE (F : Nat) : Option Unit :=
bnd (qQ F) fun _ =>
some ()
def rT (F : Nat) (a2 : Int) : Option Unit :=
bnd (nr F a2) fun _ =>
some ()
def entOld : List (List UInt8) := [([38] : List UInt8), ([38, 97, 109, 112, 59] : List UInt8), ([60] : List UInt8), ([38, 108, 116, 59] : List UInt8), ([62] : List UInt8), ([38, 103, 116, 59] : List UInt8), ([34] : List UInt8), ([38, 113, 117, 111, 116, 59] : List UInt8)]
def iR : List (Option (List UInt8)) := (List.range 256).map fun k => if k = 38 then some ([38, 97, 109, 112, 59] : List UInt8) else if k = 60 then some ([38, 108, 116, 59] : List UInt8) else if k = 62 then some ([38, 103, 116, 59] : List UInt8) else if k = 34 then some ([38, 113, 117, 111, 116, 59] : List UInt8) else none
def entRep : List (List UInt8) := [[34], [62], [60], [38]]
def kw (y44 : List (List UInt8)) : Option ((List (List UInt8))) :=
some y44
def kv (y40 : List (List UInt8)) : Option ((List (List UInt8))) :=
grd (bt ([38, 97, 109, 112, 59] : List UInt8).length) <|
kw y40
def ku (y32 : List (List UInt8)) : Option ((List (List UInt8))) :=
grd (bt ([38, 108, 116, 59] : List UInt8).length) <|
grd (bt (y32.length + ([([38] : List UInt8)] : List (List UInt8)).length)) <|
lt (y32 ++ ([([38] : List UInt8)] : List (List UInt8))) fun x38 =>
kv x38
def kr (y24 : List (List UInt8)) : Option ((List (List UInt8))) :=
grd (bt ([38, 103, 116, 59] : List UInt8).length) <|
grd (bt (y24.length + ([([60] : List UInt8)] : List (List UInt8)).length)) <|
lt (y24 ++ ([([60] : List UInt8)] : List (List UInt8))) fun x30 =>
ku x30
def kq (y16 : List (List UInt8)) : Option ((List (List UInt8))) :=
grd (bt ([38, 113, 117, 111, 116, 59] : List UInt8).length) <|
grd (bt (y16.length + ([([62] : List UInt8)] : List (List UInt8)).length)) <|
lt (y16 ++ ([([62] : List UInt8)] : List (List UInt8))) fun x22 =>
kr x22
def ko : Option ((List (List UInt8))) :=
grd (dJ 8 2) <|
grd (bt (([] : List (List UInt8)).length + ([([34] : List UInt8)] : List (List UInt8)).length)) <|
lt (([] : List (List UInt8)) ++ ([([34] : List UInt8)] : List (List UInt8))) fun x14 =>
kq x14
def kn : Option ((List (List UInt8))) :=
ko
def km : Option ((List (List UInt8))) :=
kn
def kj : Option ((List (List UInt8))) :=
km
def jg : Option ((List (List UInt8))) :=
kj
def jf : Option ((List (List UInt8))) :=
jg
def uV (F : Nat) : Option ((List (List UInt8))) :=
jf
def mE : Option Unit :=
grd (bt entOld.length) <|
some ()
def rp_New (F : Nat) : Option Unit :=
grd (dJ 8 2) <|
mE
def fX (y55 : Int) (y93 : List UInt8) : Option ((List UInt8)) :=
grd (decide (y93.length = Int.toNat y55)) <|
some y93
def fp (y62 : Int) (rec64 : (Int × Int × (List UInt8)) → Option ((List UInt8))) (y89 : Int) (y90 : List UInt8) : Option ((List UInt8)) :=
grd (okI (y62 + 1)) <|
rec64 (y89, y62 + 1, y90)
def fZ (a2 : List UInt8) (y55 : Int) (rec64 : (Int × Int × (List UInt8)) → Option ((List UInt8))) (y61 : Int) (y62 : Int) (y63 : List UInt8) : Option ((List UInt8)) :=
bif decide (y62 < (a2.length : Int)) then
  grd (cD y62 a2.length) <|
  lt (at_ a2 y62) fun x68 =>
  grd (cD (x68.toNat : Int) 256) <|
  lt (at_ iR (x68.toNat : Int)) fun x71 =>
  grd (decide (x71 ≠ some [])) <|
  bif !x71.isNone then
    grd (decide (0 ≤ y61 ∧ y61 < Int.toNat y55)) <|
    grd (cD (x68.toNat : Int) 256) <|
    lt (at_ iR (x68.toNat : Int)) fun x77 =>
    grd (decide ((x77.getD []).length ≤ Int.toNat y55 - Int.toNat y61)) <|
    grd (decide (Int.toNat y61 + (x77.getD []).length ≤ y63.length)) <|
    lt (List.take (Int.toNat y61) y63 ++ (x77.getD []) ++ List.drop (Int.toNat y61 + (x77.getD []).length) y63) fun x81 =>
    grd (okI (y61 + ((x77.getD []).length : Int))) <|
    fp y62 rec64 (y61 + ((x77.getD []).length : Int)) x81
  else
    grd (cD y61 (Int.toNat y55)) <|
    grd (cD y61 y63.length) <|
    lt (y63.set (Int.toNat y61) x68) fun x86 =>
    grd (okI (y61 + 1)) <|
    fp y62 rec64 (y61 + 1) x86
else
  fX y55 y63
def eD (a2 : List UInt8) (y55 : Int) (n : Nat) : (Int × Int × (List UInt8)) → Option ((List UInt8)) :=
  loop (fun rec x => fZ a2 y55 rec x.1 x.2.1 x.2.2) n
def dw (F : Nat) (a2 : List UInt8) (y55 : Int) (y56 : Bool) : Option ((List UInt8)) :=
bif !y56 then
  some a2
else
  grd (cD y55 1000000000) <|
  eD a2 y55 F (0, 0, List.replicate (Int.toNat y55) 0)
def fm (y8 : Int) (rec9 : (Int × Bool × Int) → Option ((List UInt8))) (y28 : Int) (y29 : Bool) : Option ((List UInt8)) :=
grd (okI (y8 + 1)) <|
rec9 (y28, y29, y8 + 1)
def eE (F : Nat) (a2 : List UInt8) (rec9 : (Int × Bool × Int) → Option ((List UInt8))) (y6 : Int) (y7 : Bool) (y8 : Int) : Option ((List UInt8)) :=
bif decide (y8 < (entRep.length : Int)) then
  grd (cD y8 entRep.length) <|
  lt (at_ entRep y8) fun x13 =>
  grd (decide (x13.length = 1)) <|
  lt (Go.Lib.countByte a2 (at_ x13 0) : Int) fun x16 =>
  bif !decide (x16 = 0) then
    grd (cD 0 x13.length) <|
    lt (at_ x13 0) fun x20 =>
    grd (cD (x20.toNat : Int) 256) <|
    lt (at_ iR (x20.toNat : Int)) fun x23 =>
    grd (okI (((x23.getD []).length : Int) - 1)) <|
    grd (okI (x16 * (((x23.getD []).length : Int) - 1))) <|
    grd (okI (y6 + (x16 * (((x23.getD []).length : Int) - 1)))) <|
    fm y8 rec9 (y6 + (x16 * (((x23.getD []).length : Int) - 1))) true
  else
    fm y8 rec9 y6 y7
else
  dw F a2 y6 y7
def cM (F : Nat) (a2 : List UInt8) (n : Nat) : (Int × Bool × Int) → Option ((List UInt8)) :=
  loop (fun rec x => eE F a2 rec x.1 x.2.1 x.2.2) n
def fk (y34 : Int) (rec35 : (Int × Bool × Int) → Option ((List UInt8))) (y51 : Int) (y52 : Bool) : Option ((List UInt8)) :=
grd (okI (y34 + 1)) <|
rec35 (y51, y52, y34 + 1)
def fY (F : Nat) (a2 : List UInt8) (rec35 : (Int × Bool × Int) → Option ((List UInt8))) (y32 : Int) (y33 : Bool) (y34 : Int) : Option ((List UInt8)) :=
bif decide (y34 < (a2.length : Int)) then
  grd (cD y34 a2.length) <|
  lt (at_ a2 y34) fun x39 =>
  grd (cD (x39.toNat : Int) 256) <|
  lt (at_ iR (x39.toNat : Int)) fun x42 =>
  grd (decide (x42 ≠ some [])) <|
  bif !x42.isNone then
    grd (cD (x39.toNat : Int) 256) <|
    lt (at_ iR (x39.toNat : Int)) fun x47 =>
    grd (okI (((x47.getD []).length : Int) - 1)) <|
    grd (okI (y32 + (((x47.getD []).length : Int) - 1))) <|
    fk y34 rec35 (y32 + (((x47.getD []).length : Int) - 1)) true
  else
    fk y34 rec35 y32 y33
else
  dw F a2 y32 y33
def eC (F : Nat) (a2 : List UInt8) (n : Nat) : (Int × Bool × Int) → Option ((List UInt8)) :=
  loop (fun rec x => fY F a2 rec x.1 x.2.1 x.2.2) n
def fK (F : Nat) (a2 : List UInt8) : Option ((List UInt8)) :=
grd (okI ((entRep.length : Int) * 8)) <|
bif decide ((entRep.length : Int) * 8 ≤ (a2.length : Int)) then
  cM F a2 F ((a2.length : Int), false, 0)
else
  eC F a2 F ((a2.length : Int), false, 0)
end Go.Pv
namespace Go.Proofs.YtjegcifofddgbaaGreatDoor
open Go.RowKit Go.Av Go.Pv
theorem xZ : ∀ (args : Array Value) (w : World), (callFunc 195 args).run Tryz.prog w = .ok (.enter 195 args) w := fun _ _ => by kernel_rfl
theorem xR : ∀ (args : Array Value) (w : World), (callFunc 245 args).run Tryz.prog w = .ok (.enter 245 args) w := fun _ _ => by kernel_rfl
theorem xQ : ∀ (args : Array Value) (w : World), (callFunc 246 args).run Tryz.prog w = .ok (.enter 246 args) w := fun _ _ => by kernel_rfl
theorem xP : ∀ (args : Array Value) (w : World), (callFunc 248 args).run Tryz.prog w = .ok (.enter 248 args) w := fun _ _ => by kernel_rfl
set_option maxRecDepth 100000 in
set_option maxHeartbeats 1000000 in
theorem w_sy_b32 (F : Nat) (a1 : Bool) (r2 : Int) (H : wz F a1 = some r2) : ACalls Tryz.prog 248 [B a1] [] (Ret (.v (.int .u32 r2)) []) := by
 unfold wz at H
 refine ax Tryz.func248 rfl rfl ?_;show AW _ _ 4 _ _ _;refine af <| aa ?_;show AR _ _ _ _ _ [0] _;refine za rfl <| ag <| af <| af <| aa ?_;show AR _ _ _ _ _ [0] _;refine zm rfl <| ag <| az rfl (fun c3 => ?_) (fun c3 => ?_)
 ·replace H := aZ c3 H;refine af <| aa ?_;show AR _ _ _ _ _ [0] _;refine za rfl <| ag <| aL ?_;obtain rfl := ap H;exact And.intro rfl (Exists.intro _ (Exists.intro _ ⟨aH rfl (.refl _), aI [] rfl, rfl, rfl⟩))
 ·replace H := ba c3 H;refine aC <| af <| aa ?_;show AR _ _ _ _ _ [0] _;refine za rfl <| ag <| aL ?_;obtain rfl := ap H;exact And.intro rfl (Exists.intro _ (Exists.intro _ ⟨aH rfl (.refl _), aI [] rfl, rfl, rfl⟩))
set_option maxRecDepth 100000 in
set_option maxHeartbeats 1000000 in
theorem rP (F : Nat) (o1 : Nat) (a2 : Int) (a3 : Int) (v4 : AV) (v5 : AV) (r6 : Bool) (H : wF F a2 a3 = some r6) : ACalls Tryz.prog 165 [.pt o1 0] [.obj o1 [.v (.int .u32 a2), .v (.int .i32 a3), .v (.int .u32 0), v4, v5]] (fun e A' => e = .ret (B r6) ∧ A' = [.obj o1 [.v (.int .u32 a2), .v (.int .i32 a3), .v (.int .u32 0), v4, v5]]) := by
 unfold wF at H
 refine ax Tryz.func165 rfl rfl ?_;show AW _ _ 8 _ _ _;refine af <| aa ?_;show AR _ _ _ _ _ [0] _;refine za rfl <| ag <| af <| aa ?_;show AR _ _ _ _ _ [0, 1, 2, 3, 4, 5] _;refine zS rfl (aj (av := .pt _ _) rfl) <| zS rfl (ar rfl) <| zS rfl (al (n := 0) (by kernel_rfl) rfl) <| zR rfl (sP (i := 0) (k := .u32) ⟨Tryz.func213, by kernel_rfl, by kernel_rfl, by kernel_rfl, by kernel_rfl⟩ rfl rfl rfl) <| zS rfl (dg rfl rfl) <| za rfl <| ag <| aL ?_;obtain rfl := ap H;exact And.intro rfl (Exists.intro _ (Exists.intro _ ⟨aH rfl (.refl _), aI [0] rfl, rfl, rfl⟩))
set_option maxRecDepth 100000 in
set_option maxHeartbeats 1000000 in
theorem wu (u : FrameMode) (F : Nat) (o1 : Nat) (v2 : AV) (v3 : AV) (a4 : Bool) (r5 : Int) (H : uT F a4 = some r5) : ADCalls Tryz.prog 216 [.pt o1 0, B a4] [.obj o1 [.v (.int .u32 0), .v (.int .i32 1), .v (.int .u32 0), v2, v3]] u (fun ae u' A' => ae = .ret (.tup []) ∧ u' = u ∧ A' = [.obj o1 [.v (.int .u32 r5), .v (.int .i32 1), .v (.int .u32 0), v2, v3]]) := by
 unfold uT at H
 refine ADCalls.of_body Tryz.func216 rfl rfl ?_;show AW _ _ 10 _ _ _;obtain ⟨x6, e7, H⟩ := bK H;refine bz (by kernel_rfl) ?_;show AI _ _ _ _ _ 6 (Array.replicate 6 false) _;refine zk 0 rfl (aj (av := .pt _ _) rfl) ?_;show AI _ _ _ _ _ _ #[true, false, false, false, false, false] _;refine zk 1 rfl (ar rfl) ?_;show AI _ _ _ _ _ _ #[true, true, false, false, false, false] _;refine zk 2 rfl (al (n := 0) (by kernel_rfl) rfl) ?_;show AI _ _ _ _ _ _ #[true, true, true, false, false, false] _;refine zk 3 rfl (mv rfl) ?_;show AI _ _ _ _ _ _ #[true, true, true, true, false, false] _;refine aX (i := 4) (by kernel_rfl) rfl rfl <| dp rfl xP rfl (w_sy_b32 F a4 x6 e7) ?_;show AI _ _ _ _ _ _ #[true, true, true, true, true, false] _;refine aX (i := 5) (by kernel_rfl) rfl rfl <| aW rfl (rJ (i := 0) ⟨Tryz.func247, by kernel_rfl, by kernel_rfl, by kernel_rfl, by kernel_rfl⟩ rfl rfl rfl rfl) ?_;show AI _ _ _ _ _ _ #[true, true, true, true, true, true] _;refine bE rfl ?_;obtain rfl := ap H;exact And.intro rfl (Exists.intro _ (Exists.intro _ ⟨ck rfl, aI [0] rfl, rfl, rfl, rfl⟩))
set_option maxRecDepth 100000 in
set_option maxHeartbeats 1000000 in
theorem vl (F : Nat) (o1 : Nat) (v2 : AV) (v3 : AV) (H : qQ F = some ()) : ACalls Tryz.prog 245 [.pt o1 1] [.obj o1 [.v (.int .u32 0), .v (.int .i32 0), .v (.int .u32 0), v2, v3]] (fun e A' => e = .ret (.tup []) ∧ A' = [.obj o1 [.v (.int .u32 0), .v (.int .i32 1), .v (.int .u32 0), v2, v3]]) := by
 unfold qQ at H
 refine ax Tryz.func245 rfl rfl ?_;show AW _ _ 13 _ _ _;refine af <| aa ?_;show AR _ _ _ _ _ [0] _;refine zR rfl (mG .disable ⟨Tryz.func260, by kernel_rfl, by kernel_rfl, by kernel_rfl, by kernel_rfl⟩) <| ag <| af <| af <| aa ?_;show AR _ _ _ _ _ [0, 1, 2, 3] _;refine zS rfl (aj (av := .pt _ _) rfl) <| zS rfl (ar rfl) <| zS rfl (al (n := 0) (by kernel_rfl) rfl) <| zR rfl (uf (i := 0) (k := .i32) ⟨Tryz.func261, by kernel_rfl, by kernel_rfl, by kernel_rfl, by kernel_rfl⟩ rfl rfl rfl rfl rfl) <| ag <| az rfl (fun _ => ?_) (fun hx => bS rfl hx);refine af <| az rfl (fun _ => ?_) (fun hx => bS rfl hx);refine af <| aa ?_;show AR _ _ _ _ _ [0] _;refine zR rfl (mG .enable ⟨Tryz.func262, by kernel_rfl, by kernel_rfl, by kernel_rfl, by kernel_rfl⟩) <| ag <| aa ?_;show AR _ _ _ _ _ [0, 1, 2] _;refine zS rfl (aj (av := .pt _ _) rfl) <| zR rfl (oe (i := 0) Tryz.underlying276 cC (by kernel_rfl) rfl rfl rfl) <| zR rfl (rY .acquire ⟨Tryz.func263, by kernel_rfl, by kernel_rfl, by kernel_rfl, by kernel_rfl⟩ rfl) <| ag <| aL ?_;exact And.intro rfl (Exists.intro _ (Exists.intro _ ⟨ck rfl, aI [0] rfl, rfl, rfl⟩))
abbrev _root_.Go.Av.eu := @Tryz.underlying21
set_option maxRecDepth 100000 in
set_option maxHeartbeats 1000000 in
theorem sD (F : Nat) (o1 : Nat) (a2 : Int) (v3 : AV) (v4 : AV) (H : nr F a2 = some ()) : ACalls Tryz.prog 246 [.pt o1 1] [.obj o1 [.v (.int .u32 a2), .v (.int .i32 1), .v (.int .u32 0), v3, v4]] (fun e A' => e = .ret (.tup []) ∧ A' = [.obj o1 [.v (.int .u32 a2), .v (.int .i32 0), .v (.int .u32 0), v3, v4]]) := by
 unfold nr at H
 refine ax Tryz.func246 rfl rfl ?_;show AW _ _ 21 _ _ _;refine bk (X := Unit) (fun _ => ⟨[(0, .pt o1 1)], [], [.obj o1 [.v (.int .u32 a2), .v (.int .i32 1), .v (.int .u32 0), v3, v4]]⟩) (fun _ => ik = some ()) ?_ ?_
 ·refine az rfl (fun _ => ?_) (fun hx => bS rfl hx);refine af <| aa ?_;show AR _ _ _ _ _ [0, 1, 2, 3] _;refine zS rfl (aj (av := .pt _ _) rfl) <| zS rfl (ar rfl) <| zS rfl (al (n := 0) (by kernel_rfl) rfl) <| zR rfl (am (i := 0) eu rfl rfl rfl rfl) <| ag <| af <| aa ?_;show AR _ _ _ _ _ [0, 1, 2] _;refine zS rfl (aj (av := .pt _ _) rfl) <| zR rfl (oe (i := 0) Tryz.underlying276 cC (by kernel_rfl) rfl rfl rfl) <| zR rfl (rY .releaseMerge ⟨Tryz.func265, by kernel_rfl, by kernel_rfl, by kernel_rfl, by kernel_rfl⟩ rfl) <| ag <| aa ?_;show AR _ _ _ _ _ [0] _;refine zR rfl (mG .disable ⟨Tryz.func260, by kernel_rfl, by kernel_rfl, by kernel_rfl, by kernel_rfl⟩) <| ag ?_;exact Exists.intro () ⟨H, aP [0] (.cons (.refl _) (.nil _)) rfl⟩
 rintro _ H;replace H : ik = some () := H
 unfold ik at H
 refine af <| aa ?_;show AR _ _ _ _ _ [0, 1, 2, 3, 4] _;refine zS rfl (aj (av := .pt _ _) rfl) <| zS rfl (ar rfl) <| zS rfl (al (n := 0) (by kernel_rfl) rfl) <| zR rfl (ug (i := 0) (k := .i32) (s := 0) ⟨Tryz.func266, by kernel_rfl, by kernel_rfl, by kernel_rfl, by kernel_rfl⟩ rfl rfl rfl rfl (by decide)) <| za rfl <| ag <| bk (X := Unit) (fun _ => ⟨[], [], [.obj o1 [.v (.int .u32 a2), .v (.int .i32 0), .v (.int .u32 0), v3, v4]]⟩) (fun _ => im = some ()) ?_ ?_
 ·refine af <| aa ?_;show AR _ _ _ _ _ [0, 1] _;refine zm rfl <| zS rfl (bo (av' := B false) (dg rfl rfl) (aA (by decide))) <| ag <| az rfl (fun hx => bS hx rfl) (fun _ => ?_);refine aC ?_;exact Exists.intro () ⟨H, aP [0] (.nil _) rfl⟩
 rintro _ H;replace H : im = some () := H
 unfold im at H
 refine aa ?_;show AR _ _ _ _ _ [0] _;refine zR rfl (mG .enable ⟨Tryz.func262, by kernel_rfl, by kernel_rfl, by kernel_rfl, by kernel_rfl⟩) <| ag ?_;exact And.intro rfl (Exists.intro _ (Exists.intro _ ⟨ck rfl, aI [0] rfl, rfl, rfl⟩))
set_option maxRecDepth 100000 in
set_option maxHeartbeats 1000000 in
theorem wW (F : Nat) (o1 : Nat) (v2 : AV) (v3 : AV) (H : wE F = some ()) : ACalls Tryz.prog 214 [.pt o1 1] [.obj o1 [.v (.int .u32 0), .v (.int .i32 0), .v (.int .u32 0), v2, v3]] (fun e A' => e = .ret (.tup []) ∧ A' = [.obj o1 [.v (.int .u32 0), .v (.int .i32 1), .v (.int .u32 0), v2, v3]]) := by
 unfold wE at H
 refine ax Tryz.func214 rfl rfl ?_;show AW _ _ 6 _ _ _;obtain ⟨_, e4, H⟩ := bK H;refine aa ?_;show AR _ _ _ _ _ [0, 1, 2, 3] _;refine zS rfl (aj (av := .pt _ _) rfl) <| zS rfl (ar rfl) <| zS rfl (al (n := 0) (by kernel_rfl) rfl) <| aq rfl rfl (bI [0] rfl xR rfl (vl F o1 v2 v3 e4) rfl (fun c A' h => by cases h.1) ?_)
 rintro av A' ⟨h, rfl⟩; cases h
 refine ag ?_;exact And.intro rfl (Exists.intro _ (Exists.intro _ ⟨ck rfl, aI [0] rfl, rfl, rfl⟩))
set_option maxRecDepth 100000 in
set_option maxHeartbeats 1000000 in
theorem uO (u : FrameMode) (F : Nat) (o1 : Nat) (a2 : Int) (v3 : AV) (v4 : AV) (H : rT F a2 = some ()) : ADCalls Tryz.prog 215 [.pt o1 1] [.obj o1 [.v (.int .u32 a2), .v (.int .i32 1), .v (.int .u32 0), v3, v4]] u (fun ae u' A' => ae = .ret (.tup []) ∧ u' = u ∧ A' = [.obj o1 [.v (.int .u32 a2), .v (.int .i32 0), .v (.int .u32 0), v3, v4]]) := by
 unfold rT at H
 refine ADCalls.of_body Tryz.func215 rfl rfl ?_;show AW _ _ 6 _ _ _;obtain ⟨_, e5, H⟩ := bK H;refine aa ?_;show AR _ _ _ _ _ [0, 1, 2, 3] _;refine zS rfl (aj (av := .pt _ _) rfl) <| zS rfl (ar rfl) <| zS rfl (al (n := 0) (by kernel_rfl) rfl) <| aq rfl rfl (bI [0] rfl xQ rfl (sD F o1 a2 v3 v4 e5) rfl (fun c A' h => by cases h.1) ?_)
 rintro av A' ⟨h, rfl⟩; cases h
 refine ag ?_;exact And.intro rfl (Exists.intro _ (Exists.intro _ ⟨ck rfl, aI [0] rfl, rfl, rfl, rfl⟩))
def eX (r : List (List UInt8)) (q : Option Nat) : List AV := Enc.ob.fl iR ++ [slE Enc.str r q]
theorem wN (q : Option Nat) : AV.cp ((eX entRep q).drop 256) = .cp [slE Enc.str entRep q] := by kernel_rfl
theorem entLe (q : Option Nat) : 256 ≤ (eX entRep q).length := by
 have : (eX entRep q).length = 257 := by kernel_rfl
 omega
theorem vF (s c : List UInt8) (hc : c.length = 1) : ACalls Tryz.prog 195 [S s, S c] [] (Ret (i64 (Go.Lib.countByte s (at_ c 0) : Int)) []) := by
 obtain ⟨b, rfl⟩ : ∃ b, c = [b] := by
  match c, hc with
  | [b], _ => exact ⟨b, rfl⟩
 refine cL fun I A w vs hI hv => ?_
 obtain ⟨v1, r1, rfl, h1, hv⟩ := hv.out_cons;obtain ⟨v2, r2, rfl, h2, hv⟩ := hv.out_cons
 rw [hv.out_nil, fv h1, fv h2]
 refine (Tryz.strings_Count_one ⟨s.toArray⟩ b w).mono fun e w' ⟨he, hw⟩ => ⟨by simpa [at_] using he, hw ▸ Below.refl _ _⟩
abbrev _root_.Go.Av.bW := @Tryz.underlying233
abbrev _root_.Go.Av.aY := @Tryz.underlying5
set_option maxRecDepth 100000 in
set_option maxHeartbeats 1000000 in
theorem vn (F : Nat) (o1 : Nat) (q2 : Option Nat) (r : List (List UInt8)) (H : uV F = some r) : ACalls Tryz.prog 167 [.pt o1 0] [.obj o1 [.v (.int .u32 0), .v (.int .i32 1), .v (.int .u32 0), .v .nilIface, slE Enc.str entOld q2]] (fun e A' => ∃ t : Nat, e = .ret (.ifc 236 (.cp (eX r (some t)))) ∧ A' = [.obj o1 [.v (.int .u32 0), .v (.int .i32 1), .v (.int .u32 0), .v .nilIface, slE Enc.str entOld q2]]) := by
 unfold uV at H
 refine ax Tryz.func167 rfl rfl ?_;show AW _ _ 132 _ _ _;refine af <| aa ?_;show AR _ _ _ _ _ [0] _;refine za rfl <| ag <| af <| aa ?_;show AR _ _ _ _ _ [0, 1, 2, 3, 4] _;refine zS rfl (aj (av := .pt _ _) rfl) <| zS rfl (ar rfl) <| zS rfl (al (n := 4) (by kernel_rfl) rfl) <| zR rfl (am (i := 0) ao rfl rfl rfl rfl) <| zS rfl (aB (av := slE _ _ _) rfl) <| ag <| af <| af <| aa ?_;show AR _ _ _ _ _ [0, 1, 2, 3, 4, 5, 6, 7, 8, 9] _;refine zS rfl (aj (av := slE _ _ _) rfl) <| zS rfl (bo (av' := i64 8) (aQ ao rfl) rfl) <| zS rfl (bo (av' := B false) (cJ rfl rfl) (aA (by decide))) <| zm rfl <| zF rfl rfl <| zF rfl rfl <| zF rfl rfl <| zF rfl rfl <| zF rfl rfl <| zS rfl (aE (av := .v _) rfl rfl rfl) <| ag <| az rfl (fun hx => bS hx rfl) (fun _ => ?_);refine aC <| af <| aa ?_;show AR _ _ _ _ _ [0] _;refine za rfl <| ag <| bk (X := Unit) (fun _ => ⟨[(3, slE Enc.str entOld q2), (4, B false)], [], [.obj o1 [.v (.int .u32 0), .v (.int .i32 1), .v (.int .u32 0), .v .nilIface, slE Enc.str entOld q2]]⟩) (fun _ => kn = some r) ?_ ?_
 ·refine af <| aa ?_;show AR _ _ _ _ _ [0] _;refine za rfl <| ag <| aO <| pn 6 <| af <| af <| aa ?_;show AR _ _ _ _ _ [0, 1, 2, 3] _;refine zm rfl <| zS rfl (aj (av := slE _ _ _) rfl) <| zS rfl (bo (av' := i64 8) (aQ ao rfl) rfl) <| zS rfl (bo (av' := B true) (bC rfl rfl) (aA (by decide))) <| ag <| az rfl (fun _ => ?_) (fun hx => bS rfl hx);refine aC <| bk (X := Unit) (fun _ => ⟨[(3, slE Enc.str entOld q2), (4, B false), (5, i64 0)], [], [.obj o1 [.v (.int .u32 0), .v (.int .i32 1), .v (.int .u32 0), .v .nilIface, slE Enc.str entOld q2]]⟩) (fun _ => jf = some r) ?_ ?_
  ·refine aO <| af <| af <| aa ?_;show AR _ _ _ _ _ [0, 1, 2, 3, 4, 5] _;refine zS rfl (aj (av := slE _ _ _) rfl) <| zm rfl <| zS rfl (bV (E := Enc.str) (m := 0) ao (by kernel_rfl) rfl rfl rfl rfl) <| zS rfl (aJ ab rfl rfl) <| zS rfl (bo (av' := i64 1) (aU ab rfl) rfl) <| zS rfl (bo (av' := B false) (dg rfl rfl) (aA (by decide))) <| ag <| az rfl (fun hx => bS hx rfl) (fun _ => ?_);refine aC <| af <| aa ?_;show AR _ _ _ _ _ [0, 1, 2, 3, 4, 5, 6] _;refine zS rfl (aj (av := slE _ _ _) rfl) <| zm rfl <| zS rfl (bo (av' := i64 1) (bu rfl rfl (by decide)) rfl) <| zS rfl (bV (E := Enc.str) (m := 1) ao (by kernel_rfl) rfl rfl rfl rfl) <| zS rfl (aJ ab rfl rfl) <| zS rfl (bo (av' := i64 5) (aU ab rfl) rfl) <| zS rfl (bo (av' := B true) (dg rfl rfl) (aA (by decide))) <| ag <| az rfl (fun _ => ?_) (fun hx => bS rfl hx);refine aa ?_;show AR _ _ _ _ _ [0] _;refine za rfl <| ag ?_;exact Exists.intro () ⟨H, aP [0] (.cons (.refl _) (.cons (.refl _) (.cons (.refl _) (.nil _)))) rfl⟩
  rintro _ H;replace H : jf = some r := H
  unfold jf at H
  refine aa ?_;show AR _ _ _ _ _ [0, 1, 2] _;refine zm rfl <| zS rfl (bo (av' := i64 2) (bu rfl rfl (by decide)) rfl) <| za rfl <| ag <| af <| af <| aa ?_;show AR _ _ _ _ _ [0, 1, 2, 3] _;refine zm rfl <| zS rfl (aj (av := slE _ _ _) rfl) <| zS rfl (bo (av' := i64 8) (aQ ao rfl) rfl) <| zS rfl (bo (av' := B true) (bC rfl rfl) (aA (by decide))) <| ag <| az rfl (fun _ => ?_) (fun hx => bS rfl hx);refine aC <| bk (X := Unit) (fun _ => ⟨[(3, slE Enc.str entOld q2), (4, B false), (5, i64 2)], [], [.obj o1 [.v (.int .u32 0), .v (.int .i32 1), .v (.int .u32 0), .v .nilIface, slE Enc.str entOld q2]]⟩) (fun _ => jg = some r) ?_ ?_
  ·refine aO <| af <| af <| aa ?_;show AR _ _ _ _ _ [0, 1, 2, 3, 4, 5] _;refine zS rfl (aj (av := slE _ _ _) rfl) <| zm rfl <| zS rfl (bV (E := Enc.str) (m := 2) ao (by kernel_rfl) rfl rfl rfl rfl) <| zS rfl (aJ ab rfl rfl) <| zS rfl (bo (av' := i64 1) (aU ab rfl) rfl) <| zS rfl (bo (av' := B false) (dg rfl rfl) (aA (by decide))) <| ag <| az rfl (fun hx => bS hx rfl) (fun _ => ?_);refine aC <| af <| aa ?_;show AR _ _ _ _ _ [0, 1, 2, 3, 4, 5, 6] _;refine zS rfl (aj (av := slE _ _ _) rfl) <| zm rfl <| zS rfl (bo (av' := i64 3) (bu rfl rfl (by decide)) rfl) <| zS rfl (bV (E := Enc.str) (m := 3) ao (by kernel_rfl) rfl rfl rfl rfl) <| zS rfl (aJ ab rfl rfl) <| zS rfl (bo (av' := i64 4) (aU ab rfl) rfl) <| zS rfl (bo (av' := B true) (dg rfl rfl) (aA (by decide))) <| ag <| az rfl (fun _ => ?_) (fun hx => bS rfl hx);refine aa ?_;show AR _ _ _ _ _ [0] _;refine za rfl <| ag ?_;exact Exists.intro () ⟨H, aP [0] (.cons (.refl _) (.cons (.refl _) (.cons (.refl _) (.nil _)))) rfl⟩
  rintro _ H;replace H : jg = some r := H
  unfold jg at H
  refine aa ?_;show AR _ _ _ _ _ [0, 1, 2] _;refine zm rfl <| zS rfl (bo (av' := i64 4) (bu rfl rfl (by decide)) rfl) <| za rfl <| ag <| af <| af <| aa ?_;show AR _ _ _ _ _ [0, 1, 2, 3] _;refine zm rfl <| zS rfl (aj (av := slE _ _ _) rfl) <| zS rfl (bo (av' := i64 8) (aQ ao rfl) rfl) <| zS rfl (bo (av' := B true) (bC rfl rfl) (aA (by decide))) <| ag <| az rfl (fun _ => ?_) (fun hx => bS rfl hx);refine aC <| bk (X := Unit) (fun _ => ⟨[(3, slE Enc.str entOld q2), (4, B false), (5, i64 4)], [], [.obj o1 [.v (.int .u32 0), .v (.int .i32 1), .v (.int .u32 0), .v .nilIface, slE Enc.str entOld q2]]⟩) (fun _ => kj = some r) ?_ ?_
  ·refine aO <| af <| af <| aa ?_;show AR _ _ _ _ _ [0, 1, 2, 3, 4, 5] _;refine zS rfl (aj (av := slE _ _ _) rfl) <| zm rfl <| zS rfl (bV (E := Enc.str) (m := 4) ao (by kernel_rfl) rfl rfl rfl rfl) <| zS rfl (aJ ab rfl rfl) <| zS rfl (bo (av' := i64 1) (aU ab rfl) rfl) <| zS rfl (bo (av' := B false) (dg rfl rfl) (aA (by decide))) <| ag <| az rfl (fun hx => bS hx rfl) (fun _ => ?_);refine aC <| af <| aa ?_;show AR _ _ _ _ _ [0, 1, 2, 3, 4, 5, 6] _;refine zS rfl (aj (av := slE _ _ _) rfl) <| zm rfl <| zS rfl (bo (av' := i64 5) (bu rfl rfl (by decide)) rfl) <| zS rfl (bV (E := Enc.str) (m := 5) ao (by kernel_rfl) rfl rfl rfl rfl) <| zS rfl (aJ ab rfl rfl) <| zS rfl (bo (av' := i64 4) (aU ab rfl) rfl) <| zS rfl (bo (av' := B true) (dg rfl rfl) (aA (by decide))) <| ag <| az rfl (fun _ => ?_) (fun hx => bS rfl hx);refine aa ?_;show AR _ _ _ _ _ [0] _;refine za rfl <| ag ?_;exact Exists.intro () ⟨H, aP [0] (.cons (.refl _) (.cons (.refl _) (.cons (.refl _) (.nil _)))) rfl⟩
  rintro _ H;replace H : kj = some r := H
  unfold kj at H
  refine aa ?_;show AR _ _ _ _ _ [0, 1, 2] _;refine zm rfl <| zS rfl (bo (av' := i64 6) (bu rfl rfl (by decide)) rfl) <| za rfl <| ag <| af <| af <| aa ?_;show AR _ _ _ _ _ [0, 1, 2, 3] _;refine zm rfl <| zS rfl (aj (av := slE _ _ _) rfl) <| zS rfl (bo (av' := i64 8) (aQ ao rfl) rfl) <| zS rfl (bo (av' := B true) (bC rfl rfl) (aA (by decide))) <| ag <| az rfl (fun _ => ?_) (fun hx => bS rfl hx);refine aC <| bk (X := Unit) (fun _ => ⟨[(3, slE Enc.str entOld q2), (4, B false), (5, i64 6)], [], [.obj o1 [.v (.int .u32 0), .v (.int .i32 1), .v (.int .u32 0), .v .nilIface, slE Enc.str entOld q2]]⟩) (fun _ => km = some r) ?_ ?_
  ·refine aO <| af <| af <| aa ?_;show AR _ _ _ _ _ [0, 1, 2, 3, 4, 5] _;refine zS rfl (aj (av := slE _ _ _) rfl) <| zm rfl <| zS rfl (bV (E := Enc.str) (m := 6) ao (by kernel_rfl) rfl rfl rfl rfl) <| zS rfl (aJ ab rfl rfl) <| zS rfl (bo (av' := i64 1) (aU ab rfl) rfl) <| zS rfl (bo (av' := B false) (dg rfl rfl) (aA (by decide))) <| ag <| az rfl (fun hx => bS hx rfl) (fun _ => ?_);refine aC <| af <| aa ?_;show AR _ _ _ _ _ [0, 1, 2, 3, 4, 5, 6] _;refine zS rfl (aj (av := slE _ _ _) rfl) <| zm rfl <| zS rfl (bo (av' := i64 7) (bu rfl rfl (by decide)) rfl) <| zS rfl (bV (E := Enc.str) (m := 7) ao (by kernel_rfl) rfl rfl rfl rfl) <| zS rfl (aJ ab rfl rfl) <| zS rfl (bo (av' := i64 6) (aU ab rfl) rfl) <| zS rfl (bo (av' := B true) (dg rfl rfl) (aA (by decide))) <| ag <| az rfl (fun _ => ?_) (fun hx => bS rfl hx);refine aa ?_;show AR _ _ _ _ _ [0] _;refine za rfl <| ag ?_;exact Exists.intro () ⟨H, aP [0] (.cons (.refl _) (.cons (.refl _) (.cons (.refl _) (.nil _)))) rfl⟩
  rintro _ H;replace H : km = some r := H
  unfold km at H
  refine aa ?_;show AR _ _ _ _ _ [0, 1, 2] _;refine zm rfl <| zS rfl (bo (av' := i64 8) (bu rfl rfl (by decide)) rfl) <| za rfl <| ag <| af <| af <| aa ?_;show AR _ _ _ _ _ [0, 1, 2, 3] _;refine zm rfl <| zS rfl (aj (av := slE _ _ _) rfl) <| zS rfl (bo (av' := i64 8) (aQ ao rfl) rfl) <| zS rfl (bo (av' := B false) (bC rfl rfl) (aA (by decide))) <| ag <| az rfl (fun hx => bS hx rfl) (fun _ => ?_);refine bZ ?_;exact Exists.intro () ⟨H, aP [0] (.cons (.refl _) (.cons (.refl _) (.nil _))) rfl⟩
 rintro _ H;replace H : kn = some r := H
 unfold kn at H
 refine bk (X := Unit) (fun _ => ⟨[(3, slE Enc.str entOld q2)], [], [.obj o1 [.v (.int .u32 0), .v (.int .i32 1), .v (.int .u32 0), .v .nilIface, slE Enc.str entOld q2]]⟩) (fun _ => ko = some r) ?_ ?_
 ·refine af <| aa ?_;show AR _ _ _ _ _ [0] _;refine zm rfl <| ag <| az rfl (fun hx => bS hx rfl) (fun _ => ?_);refine aC ?_;exact Exists.intro () ⟨H, aP [0] (.cons (.refl _) (.nil _)) rfl⟩
 rintro _ H;replace H : ko = some r := H
 unfold ko at H
 refine af ?_;obtain ⟨g9, H⟩ := ay H;refine aa ?_;show AR _ _ _ _ _ [0, 1, 2, 3, 4, 5, 6] _;refine zS rfl (aj (av := slE _ _ _) rfl) <| zS rfl (bo (av' := i64 8) (aQ ao rfl) rfl) <| zS rfl (bo (av' := i64 4) (gy rfl rfl g9) rfl) <| zX rfl (ub (k := 1) (bytes := 16) (cap := 4) ao (by kernel_rfl) rfl rfl rfl rfl (by decide) (by decide) (by decide)) ?_;rintro _ _ ⟨t10, rfl, rfl⟩
 refine zS rfl (du (zs := [.slice none 0 0, .slice none 0 0, .slice none 0 0, .slice none 0 0, .slice none 0 0, .slice none 0 0, .slice none 0 0, .slice none 0 0, .slice none 0 0, .slice none 0 0, .slice none 0 0, .slice none 0 0, .slice none 0 0, .slice none 0 0, .slice none 0 0, .slice none 0 0, .slice none 0 0, .slice none 0 0, .slice none 0 0, .slice none 0 0, .slice none 0 0, .slice none 0 0, .slice none 0 0, .slice none 0 0, .slice none 0 0, .slice none 0 0, .slice none 0 0, .slice none 0 0, .slice none 0 0, .slice none 0 0, .slice none 0 0, .slice none 0 0, .slice none 0 0, .slice none 0 0, .slice none 0 0, .slice none 0 0, .slice none 0 0, .slice none 0 0, .slice none 0 0, .slice none 0 0, .slice none 0 0, .slice none 0 0, .slice none 0 0, .slice none 0 0, .slice none 0 0, .slice none 0 0, .slice none 0 0, .slice none 0 0, .slice none 0 0, .slice none 0 0, .slice none 0 0, .slice none 0 0, .slice none 0 0, .slice none 0 0, .slice none 0 0, .slice none 0 0, .slice none 0 0, .slice none 0 0, .slice none 0 0, .slice none 0 0, .slice none 0 0, .slice none 0 0, .slice none 0 0, .slice none 0 0, .slice none 0 0, .slice none 0 0, .slice none 0 0, .slice none 0 0, .slice none 0 0, .slice none 0 0, .slice none 0 0, .slice none 0 0, .slice none 0 0, .slice none 0 0, .slice none 0 0, .slice none 0 0, .slice none 0 0, .slice none 0 0, .slice none 0 0, .slice none 0 0, .slice none 0 0, .slice none 0 0, .slice none 0 0, .slice none 0 0, .slice none 0 0, .slice none 0 0, .slice none 0 0, .slice none 0 0, .slice none 0 0, .slice none 0 0, .slice none 0 0, .slice none 0 0, .slice none 0 0, .slice none 0 0, .slice none 0 0, .slice none 0 0, .slice none 0 0, .slice none 0 0, .slice none 0 0, .slice none 0 0, .slice none 0 0, .slice none 0 0, .slice none 0 0, .slice none 0 0, .slice none 0 0, .slice none 0 0, .slice none 0 0, .slice none 0 0, .slice none 0 0, .slice none 0 0, .slice none 0 0, .slice none 0 0, .slice none 0 0, .slice none 0 0, .slice none 0 0, .slice none 0 0, .slice none 0 0, .slice none 0 0, .slice none 0 0, .slice none 0 0, .slice none 0 0, .slice none 0 0, .slice none 0 0, .slice none 0 0, .slice none 0 0, .slice none 0 0, .slice none 0 0, .slice none 0 0, .slice none 0 0, .slice none 0 0, .slice none 0 0, .slice none 0 0, .slice none 0 0, .slice none 0 0, .slice none 0 0, .slice none 0 0, .slice none 0 0, .slice none 0 0, .slice none 0 0, .slice none 0 0, .slice none 0 0, .slice none 0 0, .slice none 0 0, .slice none 0 0, .slice none 0 0, .slice none 0 0, .slice none 0 0, .slice none 0 0, .slice none 0 0, .slice none 0 0, .slice none 0 0, .slice none 0 0, .slice none 0 0, .slice none 0 0, .slice none 0 0, .slice none 0 0, .slice none 0 0, .slice none 0 0, .slice none 0 0, .slice none 0 0, .slice none 0 0, .slice none 0 0, .slice none 0 0, .slice none 0 0, .slice none 0 0, .slice none 0 0, .slice none 0 0, .slice none 0 0, .slice none 0 0, .slice none 0 0, .slice none 0 0, .slice none 0 0, .slice none 0 0, .slice none 0 0, .slice none 0 0, .slice none 0 0, .slice none 0 0, .slice none 0 0, .slice none 0 0, .slice none 0 0, .slice none 0 0, .slice none 0 0, .slice none 0 0, .slice none 0 0, .slice none 0 0, .slice none 0 0, .slice none 0 0, .slice none 0 0, .slice none 0 0, .slice none 0 0, .slice none 0 0, .slice none 0 0, .slice none 0 0, .slice none 0 0, .slice none 0 0, .slice none 0 0, .slice none 0 0, .slice none 0 0, .slice none 0 0, .slice none 0 0, .slice none 0 0, .slice none 0 0, .slice none 0 0, .slice none 0 0, .slice none 0 0, .slice none 0 0, .slice none 0 0, .slice none 0 0, .slice none 0 0, .slice none 0 0, .slice none 0 0, .slice none 0 0, .slice none 0 0, .slice none 0 0, .slice none 0 0, .slice none 0 0, .slice none 0 0, .slice none 0 0, .slice none 0 0, .slice none 0 0, .slice none 0 0, .slice none 0 0, .slice none 0 0, .slice none 0 0, .slice none 0 0, .slice none 0 0, .slice none 0 0, .slice none 0 0, .slice none 0 0, .slice none 0 0, .slice none 0 0, .slice none 0 0, .slice none 0 0, .slice none 0 0, .slice none 0 0, .slice none 0 0, .slice none 0 0, .slice none 0 0, .slice none 0 0, .slice none 0 0, .slice none 0 0, .slice none 0 0, .slice none 0 0, .slice none 0 0, .slice none 0 0, .slice none 0 0, .slice none 0 0, .slice none 0 0, .slice none 0 0, .slice none 0 0, .slice none 0 0, .slice none 0 0, .slice none 0 0, .slice none 0 0, .slice none 0 0, .slice none 0 0, .slice none 0 0]) (ps := [(0, 256), (256, 1)]) (cs := [ah, ah, ah, ah, ah, ah, ah, ah, ah, ah, ah, ah, ah, ah, ah, ah, ah, ah, ah, ah, ah, ah, ah, ah, ah, ah, ah, ah, ah, ah, ah, ah, ah, ah, ah, ah, ah, ah, ah, ah, ah, ah, ah, ah, ah, ah, ah, ah, ah, ah, ah, ah, ah, ah, ah, ah, ah, ah, ah, ah, ah, ah, ah, ah, ah, ah, ah, ah, ah, ah, ah, ah, ah, ah, ah, ah, ah, ah, ah, ah, ah, ah, ah, ah, ah, ah, ah, ah, ah, ah, ah, ah, ah, ah, ah, ah, ah, ah, ah, ah, ah, ah, ah, ah, ah, ah, ah, ah, ah, ah, ah, ah, ah, ah, ah, ah, ah, ah, ah, ah, ah, ah, ah, ah, ah, ah, ah, ah, ah, ah, ah, ah, ah, ah, ah, ah, ah, ah, ah, ah, ah, ah, ah, ah, ah, ah, ah, ah, ah, ah, ah, ah, ah, ah, ah, ah, ah, ah, ah, ah, ah, ah, ah, ah, ah, ah, ah, ah, ah, ah, ah, ah, ah, ah, ah, ah, ah, ah, ah, ah, ah, ah, ah, ah, ah, ah, ah, ah, ah, ah, ah, ah, ah, ah, ah, ah, ah, ah, ah, ah, ah, ah, ah, ah, ah, ah, ah, ah, ah, ah, ah, ah, ah, ah, ah, ah, ah, ah, ah, ah, ah, ah, ah, ah, ah, ah, ah, ah, ah, ah, ah, ah, ah, ah, ah, ah, ah, ah, ah, ah, ah, ah, ah, ah, ah, ah, ah, ah, ah, ah, ah, ah, ah, ah, ah, ah, slE Enc.str ([] : List (List UInt8)) (some t10)]) (by kernel_rfl) rfl rfl) <| zX rfl (dF (zs := [.slice none 0 0, .slice none 0 0, .slice none 0 0, .slice none 0 0, .slice none 0 0, .slice none 0 0, .slice none 0 0, .slice none 0 0, .slice none 0 0, .slice none 0 0, .slice none 0 0, .slice none 0 0, .slice none 0 0, .slice none 0 0, .slice none 0 0, .slice none 0 0, .slice none 0 0, .slice none 0 0, .slice none 0 0, .slice none 0 0, .slice none 0 0, .slice none 0 0, .slice none 0 0, .slice none 0 0, .slice none 0 0, .slice none 0 0, .slice none 0 0, .slice none 0 0, .slice none 0 0, .slice none 0 0, .slice none 0 0, .slice none 0 0, .slice none 0 0, .slice none 0 0, .slice none 0 0, .slice none 0 0, .slice none 0 0, .slice none 0 0, .slice none 0 0, .slice none 0 0, .slice none 0 0, .slice none 0 0, .slice none 0 0, .slice none 0 0, .slice none 0 0, .slice none 0 0, .slice none 0 0, .slice none 0 0, .slice none 0 0, .slice none 0 0, .slice none 0 0, .slice none 0 0, .slice none 0 0, .slice none 0 0, .slice none 0 0, .slice none 0 0, .slice none 0 0, .slice none 0 0, .slice none 0 0, .slice none 0 0, .slice none 0 0, .slice none 0 0, .slice none 0 0, .slice none 0 0, .slice none 0 0, .slice none 0 0, .slice none 0 0, .slice none 0 0, .slice none 0 0, .slice none 0 0, .slice none 0 0, .slice none 0 0, .slice none 0 0, .slice none 0 0, .slice none 0 0, .slice none 0 0, .slice none 0 0, .slice none 0 0, .slice none 0 0, .slice none 0 0, .slice none 0 0, .slice none 0 0, .slice none 0 0, .slice none 0 0, .slice none 0 0, .slice none 0 0, .slice none 0 0, .slice none 0 0, .slice none 0 0, .slice none 0 0, .slice none 0 0, .slice none 0 0, .slice none 0 0, .slice none 0 0, .slice none 0 0, .slice none 0 0, .slice none 0 0, .slice none 0 0, .slice none 0 0, .slice none 0 0, .slice none 0 0, .slice none 0 0, .slice none 0 0, .slice none 0 0, .slice none 0 0, .slice none 0 0, .slice none 0 0, .slice none 0 0, .slice none 0 0, .slice none 0 0, .slice none 0 0, .slice none 0 0, .slice none 0 0, .slice none 0 0, .slice none 0 0, .slice none 0 0, .slice none 0 0, .slice none 0 0, .slice none 0 0, .slice none 0 0, .slice none 0 0, .slice none 0 0, .slice none 0 0, .slice none 0 0, .slice none 0 0, .slice none 0 0, .slice none 0 0, .slice none 0 0, .slice none 0 0, .slice none 0 0, .slice none 0 0, .slice none 0 0, .slice none 0 0, .slice none 0 0, .slice none 0 0, .slice none 0 0, .slice none 0 0, .slice none 0 0, .slice none 0 0, .slice none 0 0, .slice none 0 0, .slice none 0 0, .slice none 0 0, .slice none 0 0, .slice none 0 0, .slice none 0 0, .slice none 0 0, .slice none 0 0, .slice none 0 0, .slice none 0 0, .slice none 0 0, .slice none 0 0, .slice none 0 0, .slice none 0 0, .slice none 0 0, .slice none 0 0, .slice none 0 0, .slice none 0 0, .slice none 0 0, .slice none 0 0, .slice none 0 0, .slice none 0 0, .slice none 0 0, .slice none 0 0, .slice none 0 0, .slice none 0 0, .slice none 0 0, .slice none 0 0, .slice none 0 0, .slice none 0 0, .slice none 0 0, .slice none 0 0, .slice none 0 0, .slice none 0 0, .slice none 0 0, .slice none 0 0, .slice none 0 0, .slice none 0 0, .slice none 0 0, .slice none 0 0, .slice none 0 0, .slice none 0 0, .slice none 0 0, .slice none 0 0, .slice none 0 0, .slice none 0 0, .slice none 0 0, .slice none 0 0, .slice none 0 0, .slice none 0 0, .slice none 0 0, .slice none 0 0, .slice none 0 0, .slice none 0 0, .slice none 0 0, .slice none 0 0, .slice none 0 0, .slice none 0 0, .slice none 0 0, .slice none 0 0, .slice none 0 0, .slice none 0 0, .slice none 0 0, .slice none 0 0, .slice none 0 0, .slice none 0 0, .slice none 0 0, .slice none 0 0, .slice none 0 0, .slice none 0 0, .slice none 0 0, .slice none 0 0, .slice none 0 0, .slice none 0 0, .slice none 0 0, .slice none 0 0, .slice none 0 0, .slice none 0 0, .slice none 0 0, .slice none 0 0, .slice none 0 0, .slice none 0 0, .slice none 0 0, .slice none 0 0, .slice none 0 0, .slice none 0 0, .slice none 0 0, .slice none 0 0, .slice none 0 0, .slice none 0 0, .slice none 0 0, .slice none 0 0, .slice none 0 0, .slice none 0 0, .slice none 0 0, .slice none 0 0, .slice none 0 0, .slice none 0 0, .slice none 0 0, .slice none 0 0, .slice none 0 0, .slice none 0 0, .slice none 0 0, .slice none 0 0, .slice none 0 0, .slice none 0 0, .slice none 0 0, .slice none 0 0, .slice none 0 0, .slice none 0 0, .slice none 0 0, .slice none 0 0, .slice none 0 0, .slice none 0 0, .slice none 0 0, .slice none 0 0, .slice none 0 0]) (by kernel_rfl)) ?_
 rintro _ _ ⟨o11, rfl, rfl⟩
 refine s0 rfl rfl (cT (i := 0) (vs := [ah, ah, ah, ah, ah, ah, ah, ah, ah, ah, ah, ah, ah, ah, ah, ah, ah, ah, ah, ah, ah, ah, ah, ah, ah, ah, ah, ah, ah, ah, ah, ah, ah, ah, ah, ah, ah, ah, ah, ah, ah, ah, ah, ah, ah, ah, ah, ah, ah, ah, ah, ah, ah, ah, ah, ah, ah, ah, ah, ah, ah, ah, ah, ah, ah, ah, ah, ah, ah, ah, ah, ah, ah, ah, ah, ah, ah, ah, ah, ah, ah, ah, ah, ah, ah, ah, ah, ah, ah, ah, ah, ah, ah, ah, ah, ah, ah, ah, ah, ah, ah, ah, ah, ah, ah, ah, ah, ah, ah, ah, ah, ah, ah, ah, ah, ah, ah, ah, ah, ah, ah, ah, ah, ah, ah, ah, ah, ah, ah, ah, ah, ah, ah, ah, ah, ah, ah, ah, ah, ah, ah, ah, ah, ah, ah, ah, ah, ah, ah, ah, ah, ah, ah, ah, ah, ah, ah, ah, ah, ah, ah, ah, ah, ah, ah, ah, ah, ah, ah, ah, ah, ah, ah, ah, ah, ah, ah, ah, ah, ah, ah, ah, ah, ah, ah, ah, ah, ah, ah, ah, ah, ah, ah, ah, ah, ah, ah, ah, ah, ah, ah, ah, ah, ah, ah, ah, ah, ah, ah, ah, ah, ah, ah, ah, ah, ah, ah, ah, ah, ah, ah, ah, ah, ah, ah, ah, ah, ah, ah, ah, ah, ah, ah, ah, ah, ah, ah, ah, ah, ah, ah, ah, ah, ah, ah, ah, ah, ah, ah, ah, ah, ah, ah, ah, ah, ah, slE Enc.str ([] : List (List UInt8)) (some t10)]) (by kernel_rfl) rfl rfl (by simp [cP, slE]) rfl (ai rfl)) <| ag <| bk (X := (List (List UInt8)) × Nat) (fun (y44, t45) => ⟨[(11, .pt o11 0)], [], [.obj o11 [ah, ah, ah, ah, ah, ah, ah, ah, ah, ah, ah, ah, ah, ah, ah, ah, ah, ah, ah, ah, ah, ah, ah, ah, ah, ah, ah, ah, ah, ah, ah, ah, ah, ah, slE Enc.byte ([38, 113, 117, 111, 116, 59] : List UInt8) none, ah, ah, ah, slE Enc.byte ([38, 97, 109, 112, 59] : List UInt8) none, ah, ah, ah, ah, ah, ah, ah, ah, ah, ah, ah, ah, ah, ah, ah, ah, ah, ah, ah, ah, ah, slE Enc.byte ([38, 108, 116, 59] : List UInt8) none, ah, slE Enc.byte ([38, 103, 116, 59] : List UInt8) none, ah, ah, ah, ah, ah, ah, ah, ah, ah, ah, ah, ah, ah, ah, ah, ah, ah, ah, ah, ah, ah, ah, ah, ah, ah, ah, ah, ah, ah, ah, ah, ah, ah, ah, ah, ah, ah, ah, ah, ah, ah, ah, ah, ah, ah, ah, ah, ah, ah, ah, ah, ah, ah, ah, ah, ah, ah, ah, ah, ah, ah, ah, ah, ah, ah, ah, ah, ah, ah, ah, ah, ah, ah, ah, ah, ah, ah, ah, ah, ah, ah, ah, ah, ah, ah, ah, ah, ah, ah, ah, ah, ah, ah, ah, ah, ah, ah, ah, ah, ah, ah, ah, ah, ah, ah, ah, ah, ah, ah, ah, ah, ah, ah, ah, ah, ah, ah, ah, ah, ah, ah, ah, ah, ah, ah, ah, ah, ah, ah, ah, ah, ah, ah, ah, ah, ah, ah, ah, ah, ah, ah, ah, ah, ah, ah, ah, ah, ah, ah, ah, ah, ah, ah, ah, ah, ah, ah, ah, ah, ah, ah, ah, ah, ah, ah, ah, ah, ah, ah, ah, ah, ah, ah, ah, ah, ah, ah, ah, ah, ah, ah, ah, ah, ah, ah, ah, ah, ah, ah, ah, ah, ah, ah, slE Enc.str y44 (some t45)], .obj o1 [.v (.int .u32 0), .v (.int .i32 1), .v (.int .u32 0), .v .nilIface, slE Enc.str entOld q2], .tok t45 9]⟩) (fun (y44, t45) => kw y44 = some r) ?_ ?_
 ·refine af <| aa ?_;show AR _ _ _ _ _ [0, 1, 2, 3] _;refine zS rfl (aj (av := slE _ _ _) rfl) <| zS rfl (bo (av' := i64 8) (aQ ao rfl) rfl) <| zS rfl (bo (av' := i64 6) (eL rfl rfl (by decide)) rfl) <| za rfl <| ag <| aO <| pn 6 <| af <| af <| aa ?_;show AR _ _ _ _ _ [0, 1] _;refine zm rfl <| zS rfl (bo (av' := B true) (dz rfl rfl) (aA (by decide))) <| ag <| az rfl (fun _ => ?_) (fun hx => bS rfl hx);refine aC <| af <| aO <| af <| aa ?_;show AR _ _ _ _ _ [0, 1, 2, 3, 4, 5] _;refine zS rfl (aj (av := slE _ _ _) rfl) <| zm rfl <| zS rfl (bV (E := Enc.str) (m := 6) ao (by kernel_rfl) rfl rfl rfl rfl) <| zS rfl (aJ ab rfl rfl) <| zS rfl (gd (m := 0) (c := 34) ab rfl rfl rfl rfl) <| za rfl <| ag <| af <| aa ?_;show AR _ _ _ _ _ [0, 1, 2, 3, 4, 5] _
  refine zS rfl (aj (av := slE _ _ _) rfl) <| zm rfl <| zS rfl (bo (av' := i64 7) (bu rfl rfl (by decide)) rfl) <| zS rfl (bV (E := Enc.str) (m := 7) ao (by kernel_rfl) rfl rfl rfl rfl) <| zS rfl (aJ ab rfl rfl) <| za rfl <| ag <| bk (X := (List (List UInt8)) × Nat) (fun (y16, t17) => ⟨[(3, slE Enc.str entOld q2), (11, .pt o11 0), (12, i64 6), (13, u8 34), (14, S ([38, 113, 117, 111, 116, 59] : List UInt8))], [], [.obj o11 [ah, ah, ah, ah, ah, ah, ah, ah, ah, ah, ah, ah, ah, ah, ah, ah, ah, ah, ah, ah, ah, ah, ah, ah, ah, ah, ah, ah, ah, ah, ah, ah, ah, ah, ah, ah, ah, ah, ah, ah, ah, ah, ah, ah, ah, ah, ah, ah, ah, ah, ah, ah, ah, ah, ah, ah, ah, ah, ah, ah, ah, ah, ah, ah, ah, ah, ah, ah, ah, ah, ah, ah, ah, ah, ah, ah, ah, ah, ah, ah, ah, ah, ah, ah, ah, ah, ah, ah, ah, ah, ah, ah, ah, ah, ah, ah, ah, ah, ah, ah, ah, ah, ah, ah, ah, ah, ah, ah, ah, ah, ah, ah, ah, ah, ah, ah, ah, ah, ah, ah, ah, ah, ah, ah, ah, ah, ah, ah, ah, ah, ah, ah, ah, ah, ah, ah, ah, ah, ah, ah, ah, ah, ah, ah, ah, ah, ah, ah, ah, ah, ah, ah, ah, ah, ah, ah, ah, ah, ah, ah, ah, ah, ah, ah, ah, ah, ah, ah, ah, ah, ah, ah, ah, ah, ah, ah, ah, ah, ah, ah, ah, ah, ah, ah, ah, ah, ah, ah, ah, ah, ah, ah, ah, ah, ah, ah, ah, ah, ah, ah, ah, ah, ah, ah, ah, ah, ah, ah, ah, ah, ah, ah, ah, ah, ah, ah, ah, ah, ah, ah, ah, ah, ah, ah, ah, ah, ah, ah, ah, ah, ah, ah, ah, ah, ah, ah, ah, ah, ah, ah, ah, ah, ah, ah, ah, ah, ah, ah, ah, ah, ah, ah, ah, ah, ah, ah, slE Enc.str y16 (some t17)], .obj o1 [.v (.int .u32 0), .v (.int .i32 1), .v (.int .u32 0), .v .nilIface, slE Enc.str entOld q2], .tok t17 9]⟩) (fun (y16, t17) => kq y16 = some r) ?_ ?_
  ·refine af <| aa ?_;show AR _ _ _ _ _ [0, 1, 2, 3, 4] _;refine zm rfl <| zS rfl (al (n := 0) (by kernel_rfl) rfl) <| zS rfl (bx (Ar := 0) (k := 1) (m := 34) bW (by kernel_rfl) rfl rfl rfl (by decide)) <| zR rfl (am (i := 0) ac rfl rfl rfl rfl) <| zS rfl (ky (.inl rfl) ac rfl rfl) <| ag <| az rfl (fun _ => ?_) (fun hx => bS rfl hx);obtain ⟨g13, H⟩ := ay H;obtain ⟨x14, e15, H⟩ := bg H;refine aa ?_;show AR _ _ _ _ _ [0, 1, 2, 3, 4, 5, 6, 7, 8] _;refine zS rfl (al (n := 256) (by kernel_rfl) rfl) <| zR rfl (am (i := 0) ao rfl rfl rfl rfl) <| zm rfl <| zR rfl (bQ (E := Enc.byte) (bytes := 1) (xs := [.tmp 120]) (l := ([34] : List UInt8)) ac (by kernel_rfl) rfl rfl (by decide) rfl rfl) <| zS rfl (cW ac aY ab rfl) <| zR rfl (bQ (E := Enc.str) (bytes := 16) (xs := [.tmp 122]) (l := ([([34] : List UInt8)] : List (List UInt8))) ao (by kernel_rfl) rfl rfl (by decide) rfl rfl) <| zX rfl (cE (E := Enc.str) (bytes := 16) 1 ao ao rfl (by kernel_rfl) rfl rfl rfl rfl g13 e15) ?_;rintro _ _ ⟨t12, rfl, rfl⟩;refine zS rfl (al (n := 256) (by kernel_rfl) rfl) <| s0 rfl rfl (aw (i := 0) (c := slE _ _ _) (by kernel_rfl) rfl rfl rfl rfl (ai rfl)) <| ag ?_
   exact Exists.intro (x14, t12) ⟨H, aP [0, 1, 0] (.cons (.refl _) (.cons (.refl _) (.cons (.refl _) (.cons (.refl _) (.cons (.refl _) (.nil _)))))) rfl⟩
  rintro ⟨y16, t17⟩ H;replace H : kq y16 = some r := H
  unfold kq at H
  obtain ⟨g19, H⟩ := ay H;refine aa ?_;show AR _ _ _ _ _ [0, 1, 2, 3, 4, 5] _;refine zm rfl <| zm rfl <| zR rfl (OpX.still (cy (bytes := 1) ab ac aY rfl g19)) <| zS rfl (al (n := 0) (by kernel_rfl) rfl) <| zS rfl (bx (Ar := 0) (k := 1) (m := 34) bW (by kernel_rfl) rfl rfl rfl (by decide)) <| s0 rfl rfl (aw (i := 0) (c := slE _ _ _) (by kernel_rfl) rfl rfl rfl rfl (ai rfl)) <| ag <| aa ?_;show AR _ _ _ _ _ [0, 1, 2] _;refine zm rfl <| zS rfl (bo (av' := i64 4) (eL rfl rfl (by decide)) rfl) <| za rfl <| ag <| af <| af <| aa ?_;show AR _ _ _ _ _ [0, 1] _;refine zm rfl <| zS rfl (bo (av' := B true) (dz rfl rfl) (aA (by decide))) <| ag <| az rfl (fun _ => ?_) (fun hx => bS rfl hx);refine aC <| af <| aO <| af <| aa ?_;show AR _ _ _ _ _ [0, 1, 2, 3, 4, 5] _;refine zS rfl (aj (av := slE _ _ _) rfl) <| zm rfl <| zS rfl (bV (E := Enc.str) (m := 4) ao (by kernel_rfl) rfl rfl rfl rfl) <| zS rfl (aJ ab rfl rfl) <| zS rfl (gd (m := 0) (c := 62) ab rfl rfl rfl rfl) <| za rfl <| ag <| af <| aa ?_;show AR _ _ _ _ _ [0, 1, 2, 3, 4, 5] _
  refine zS rfl (aj (av := slE _ _ _) rfl) <| zm rfl <| zS rfl (bo (av' := i64 5) (bu rfl rfl (by decide)) rfl) <| zS rfl (bV (E := Enc.str) (m := 5) ao (by kernel_rfl) rfl rfl rfl rfl) <| zS rfl (aJ ab rfl rfl) <| za rfl <| ag <| bk (X := (List (List UInt8)) × Nat) (fun (y24, t25) => ⟨[(3, slE Enc.str entOld q2), (11, .pt o11 0), (12, i64 4), (13, u8 62), (14, S ([38, 103, 116, 59] : List UInt8))], [], [.obj o11 [ah, ah, ah, ah, ah, ah, ah, ah, ah, ah, ah, ah, ah, ah, ah, ah, ah, ah, ah, ah, ah, ah, ah, ah, ah, ah, ah, ah, ah, ah, ah, ah, ah, ah, slE Enc.byte ([38, 113, 117, 111, 116, 59] : List UInt8) none, ah, ah, ah, ah, ah, ah, ah, ah, ah, ah, ah, ah, ah, ah, ah, ah, ah, ah, ah, ah, ah, ah, ah, ah, ah, ah, ah, ah, ah, ah, ah, ah, ah, ah, ah, ah, ah, ah, ah, ah, ah, ah, ah, ah, ah, ah, ah, ah, ah, ah, ah, ah, ah, ah, ah, ah, ah, ah, ah, ah, ah, ah, ah, ah, ah, ah, ah, ah, ah, ah, ah, ah, ah, ah, ah, ah, ah, ah, ah, ah, ah, ah, ah, ah, ah, ah, ah, ah, ah, ah, ah, ah, ah, ah, ah, ah, ah, ah, ah, ah, ah, ah, ah, ah, ah, ah, ah, ah, ah, ah, ah, ah, ah, ah, ah, ah, ah, ah, ah, ah, ah, ah, ah, ah, ah, ah, ah, ah, ah, ah, ah, ah, ah, ah, ah, ah, ah, ah, ah, ah, ah, ah, ah, ah, ah, ah, ah, ah, ah, ah, ah, ah, ah, ah, ah, ah, ah, ah, ah, ah, ah, ah, ah, ah, ah, ah, ah, ah, ah, ah, ah, ah, ah, ah, ah, ah, ah, ah, ah, ah, ah, ah, ah, ah, ah, ah, ah, ah, ah, ah, ah, ah, ah, ah, ah, ah, ah, ah, ah, ah, ah, ah, ah, ah, ah, ah, ah, ah, ah, ah, ah, ah, ah, ah, ah, ah, ah, ah, ah, ah, ah, slE Enc.str y24 (some t25)], .obj o1 [.v (.int .u32 0), .v (.int .i32 1), .v (.int .u32 0), .v .nilIface, slE Enc.str entOld q2], .tok t25 9]⟩) (fun (y24, t25) => kr y24 = some r) ?_ ?_
  ·refine af <| aa ?_;show AR _ _ _ _ _ [0, 1, 2, 3, 4] _;refine zm rfl <| zS rfl (al (n := 0) (by kernel_rfl) rfl) <| zS rfl (bx (Ar := 0) (k := 1) (m := 62) bW (by kernel_rfl) rfl rfl rfl (by decide)) <| zR rfl (am (i := 0) ac rfl rfl rfl rfl) <| zS rfl (ky (.inl rfl) ac rfl rfl) <| ag <| az rfl (fun _ => ?_) (fun hx => bS rfl hx);obtain ⟨g21, H⟩ := ay H;obtain ⟨x22, e23, H⟩ := bg H;refine aa ?_;show AR _ _ _ _ _ [0, 1, 2, 3, 4, 5, 6, 7, 8] _;refine zS rfl (al (n := 256) (by kernel_rfl) rfl) <| zR rfl (am (i := 0) ao rfl rfl rfl rfl) <| zm rfl <| zR rfl (bQ (E := Enc.byte) (bytes := 1) (xs := [.tmp 120]) (l := ([62] : List UInt8)) ac (by kernel_rfl) rfl rfl (by decide) rfl rfl) <| zS rfl (cW ac aY ab rfl) <| zR rfl (bQ (E := Enc.str) (bytes := 16) (xs := [.tmp 122]) (l := ([([62] : List UInt8)] : List (List UInt8))) ao (by kernel_rfl) rfl rfl (by decide) rfl rfl) <| zX rfl (cE (E := Enc.str) (bytes := 16) 2 ao ao rfl (by kernel_rfl) rfl rfl rfl rfl g21 e23) ?_;rintro _ _ ⟨t20, rfl, rfl⟩;refine zS rfl (al (n := 256) (by kernel_rfl) rfl) <| s0 rfl rfl (aw (i := 0) (c := slE _ _ _) (by kernel_rfl) rfl rfl rfl rfl (ai rfl)) <| ag ?_
   exact Exists.intro (x22, t20) ⟨H, aP [0, 0, 0] (.cons (.refl _) (.cons (.refl _) (.cons (.refl _) (.cons (.refl _) (.cons (.refl _) (.nil _)))))) rfl⟩
  rintro ⟨y24, t25⟩ H;replace H : kr y24 = some r := H
  unfold kr at H
  obtain ⟨g27, H⟩ := ay H;refine aa ?_;show AR _ _ _ _ _ [0, 1, 2, 3, 4, 5] _;refine zm rfl <| zm rfl <| zR rfl (OpX.still (cy (bytes := 1) ab ac aY rfl g27)) <| zS rfl (al (n := 0) (by kernel_rfl) rfl) <| zS rfl (bx (Ar := 0) (k := 1) (m := 62) bW (by kernel_rfl) rfl rfl rfl (by decide)) <| s0 rfl rfl (aw (i := 0) (c := slE _ _ _) (by kernel_rfl) rfl rfl rfl rfl (ai rfl)) <| ag <| aa ?_;show AR _ _ _ _ _ [0, 1, 2] _;refine zm rfl <| zS rfl (bo (av' := i64 2) (eL rfl rfl (by decide)) rfl) <| za rfl <| ag <| af <| af <| aa ?_;show AR _ _ _ _ _ [0, 1] _;refine zm rfl <| zS rfl (bo (av' := B true) (dz rfl rfl) (aA (by decide))) <| ag <| az rfl (fun _ => ?_) (fun hx => bS rfl hx);refine aC <| af <| aO <| af <| aa ?_;show AR _ _ _ _ _ [0, 1, 2, 3, 4, 5] _;refine zS rfl (aj (av := slE _ _ _) rfl) <| zm rfl <| zS rfl (bV (E := Enc.str) (m := 2) ao (by kernel_rfl) rfl rfl rfl rfl) <| zS rfl (aJ ab rfl rfl) <| zS rfl (gd (m := 0) (c := 60) ab rfl rfl rfl rfl) <| za rfl <| ag <| af <| aa ?_;show AR _ _ _ _ _ [0, 1, 2, 3, 4, 5] _
  refine zS rfl (aj (av := slE _ _ _) rfl) <| zm rfl <| zS rfl (bo (av' := i64 3) (bu rfl rfl (by decide)) rfl) <| zS rfl (bV (E := Enc.str) (m := 3) ao (by kernel_rfl) rfl rfl rfl rfl) <| zS rfl (aJ ab rfl rfl) <| za rfl <| ag <| bk (X := (List (List UInt8)) × Nat) (fun (y32, t33) => ⟨[(3, slE Enc.str entOld q2), (11, .pt o11 0), (12, i64 2), (13, u8 60), (14, S ([38, 108, 116, 59] : List UInt8))], [], [.obj o11 [ah, ah, ah, ah, ah, ah, ah, ah, ah, ah, ah, ah, ah, ah, ah, ah, ah, ah, ah, ah, ah, ah, ah, ah, ah, ah, ah, ah, ah, ah, ah, ah, ah, ah, slE Enc.byte ([38, 113, 117, 111, 116, 59] : List UInt8) none, ah, ah, ah, ah, ah, ah, ah, ah, ah, ah, ah, ah, ah, ah, ah, ah, ah, ah, ah, ah, ah, ah, ah, ah, ah, ah, ah, slE Enc.byte ([38, 103, 116, 59] : List UInt8) none, ah, ah, ah, ah, ah, ah, ah, ah, ah, ah, ah, ah, ah, ah, ah, ah, ah, ah, ah, ah, ah, ah, ah, ah, ah, ah, ah, ah, ah, ah, ah, ah, ah, ah, ah, ah, ah, ah, ah, ah, ah, ah, ah, ah, ah, ah, ah, ah, ah, ah, ah, ah, ah, ah, ah, ah, ah, ah, ah, ah, ah, ah, ah, ah, ah, ah, ah, ah, ah, ah, ah, ah, ah, ah, ah, ah, ah, ah, ah, ah, ah, ah, ah, ah, ah, ah, ah, ah, ah, ah, ah, ah, ah, ah, ah, ah, ah, ah, ah, ah, ah, ah, ah, ah, ah, ah, ah, ah, ah, ah, ah, ah, ah, ah, ah, ah, ah, ah, ah, ah, ah, ah, ah, ah, ah, ah, ah, ah, ah, ah, ah, ah, ah, ah, ah, ah, ah, ah, ah, ah, ah, ah, ah, ah, ah, ah, ah, ah, ah, ah, ah, ah, ah, ah, ah, ah, ah, ah, ah, ah, ah, ah, ah, ah, ah, ah, ah, ah, ah, ah, ah, ah, ah, ah, ah, ah, ah, ah, ah, ah, ah, ah, ah, ah, ah, ah, ah, ah, ah, ah, ah, ah, ah, slE Enc.str y32 (some t33)], .obj o1 [.v (.int .u32 0), .v (.int .i32 1), .v (.int .u32 0), .v .nilIface, slE Enc.str entOld q2], .tok t33 9]⟩) (fun (y32, t33) => ku y32 = some r) ?_ ?_
  ·refine af <| aa ?_;show AR _ _ _ _ _ [0, 1, 2, 3, 4] _;refine zm rfl <| zS rfl (al (n := 0) (by kernel_rfl) rfl) <| zS rfl (bx (Ar := 0) (k := 1) (m := 60) bW (by kernel_rfl) rfl rfl rfl (by decide)) <| zR rfl (am (i := 0) ac rfl rfl rfl rfl) <| zS rfl (ky (.inl rfl) ac rfl rfl) <| ag <| az rfl (fun _ => ?_) (fun hx => bS rfl hx);obtain ⟨g29, H⟩ := ay H;obtain ⟨x30, e31, H⟩ := bg H;refine aa ?_;show AR _ _ _ _ _ [0, 1, 2, 3, 4, 5, 6, 7, 8] _;refine zS rfl (al (n := 256) (by kernel_rfl) rfl) <| zR rfl (am (i := 0) ao rfl rfl rfl rfl) <| zm rfl <| zR rfl (bQ (E := Enc.byte) (bytes := 1) (xs := [.tmp 120]) (l := ([60] : List UInt8)) ac (by kernel_rfl) rfl rfl (by decide) rfl rfl) <| zS rfl (cW ac aY ab rfl) <| zR rfl (bQ (E := Enc.str) (bytes := 16) (xs := [.tmp 122]) (l := ([([60] : List UInt8)] : List (List UInt8))) ao (by kernel_rfl) rfl rfl (by decide) rfl rfl) <| zX rfl (cE (E := Enc.str) (bytes := 16) 2 ao ao rfl (by kernel_rfl) rfl rfl rfl rfl g29 e31) ?_;rintro _ _ ⟨t28, rfl, rfl⟩;refine zS rfl (al (n := 256) (by kernel_rfl) rfl) <| s0 rfl rfl (aw (i := 0) (c := slE _ _ _) (by kernel_rfl) rfl rfl rfl rfl (ai rfl)) <| ag ?_
   exact Exists.intro (x30, t28) ⟨H, aP [0, 0, 0] (.cons (.refl _) (.cons (.refl _) (.cons (.refl _) (.cons (.refl _) (.cons (.refl _) (.nil _)))))) rfl⟩
  rintro ⟨y32, t33⟩ H;replace H : ku y32 = some r := H
  unfold ku at H
  obtain ⟨g35, H⟩ := ay H;refine aa ?_;show AR _ _ _ _ _ [0, 1, 2, 3, 4, 5] _;refine zm rfl <| zm rfl <| zR rfl (OpX.still (cy (bytes := 1) ab ac aY rfl g35)) <| zS rfl (al (n := 0) (by kernel_rfl) rfl) <| zS rfl (bx (Ar := 0) (k := 1) (m := 60) bW (by kernel_rfl) rfl rfl rfl (by decide)) <| s0 rfl rfl (aw (i := 0) (c := slE _ _ _) (by kernel_rfl) rfl rfl rfl rfl (ai rfl)) <| ag <| aa ?_;show AR _ _ _ _ _ [0, 1, 2] _;refine zm rfl <| zS rfl (bo (av' := i64 0) (eL rfl rfl (by decide)) rfl) <| za rfl <| ag <| af <| af <| aa ?_;show AR _ _ _ _ _ [0, 1] _;refine zm rfl <| zS rfl (bo (av' := B true) (dz rfl rfl) (aA (by decide))) <| ag <| az rfl (fun _ => ?_) (fun hx => bS rfl hx);refine aC <| af <| aO <| af <| aa ?_;show AR _ _ _ _ _ [0, 1, 2, 3, 4, 5] _;refine zS rfl (aj (av := slE _ _ _) rfl) <| zm rfl <| zS rfl (bV (E := Enc.str) (m := 0) ao (by kernel_rfl) rfl rfl rfl rfl) <| zS rfl (aJ ab rfl rfl) <| zS rfl (gd (m := 0) (c := 38) ab rfl rfl rfl rfl) <| za rfl <| ag <| af <| aa ?_;show AR _ _ _ _ _ [0, 1, 2, 3, 4, 5] _
  refine zS rfl (aj (av := slE _ _ _) rfl) <| zm rfl <| zS rfl (bo (av' := i64 1) (bu rfl rfl (by decide)) rfl) <| zS rfl (bV (E := Enc.str) (m := 1) ao (by kernel_rfl) rfl rfl rfl rfl) <| zS rfl (aJ ab rfl rfl) <| za rfl <| ag <| bk (X := (List (List UInt8)) × Nat) (fun (y40, t41) => ⟨[(3, slE Enc.str entOld q2), (11, .pt o11 0), (12, i64 0), (13, u8 38), (14, S ([38, 97, 109, 112, 59] : List UInt8))], [], [.obj o11 [ah, ah, ah, ah, ah, ah, ah, ah, ah, ah, ah, ah, ah, ah, ah, ah, ah, ah, ah, ah, ah, ah, ah, ah, ah, ah, ah, ah, ah, ah, ah, ah, ah, ah, slE Enc.byte ([38, 113, 117, 111, 116, 59] : List UInt8) none, ah, ah, ah, ah, ah, ah, ah, ah, ah, ah, ah, ah, ah, ah, ah, ah, ah, ah, ah, ah, ah, ah, ah, ah, ah, slE Enc.byte ([38, 108, 116, 59] : List UInt8) none, ah, slE Enc.byte ([38, 103, 116, 59] : List UInt8) none, ah, ah, ah, ah, ah, ah, ah, ah, ah, ah, ah, ah, ah, ah, ah, ah, ah, ah, ah, ah, ah, ah, ah, ah, ah, ah, ah, ah, ah, ah, ah, ah, ah, ah, ah, ah, ah, ah, ah, ah, ah, ah, ah, ah, ah, ah, ah, ah, ah, ah, ah, ah, ah, ah, ah, ah, ah, ah, ah, ah, ah, ah, ah, ah, ah, ah, ah, ah, ah, ah, ah, ah, ah, ah, ah, ah, ah, ah, ah, ah, ah, ah, ah, ah, ah, ah, ah, ah, ah, ah, ah, ah, ah, ah, ah, ah, ah, ah, ah, ah, ah, ah, ah, ah, ah, ah, ah, ah, ah, ah, ah, ah, ah, ah, ah, ah, ah, ah, ah, ah, ah, ah, ah, ah, ah, ah, ah, ah, ah, ah, ah, ah, ah, ah, ah, ah, ah, ah, ah, ah, ah, ah, ah, ah, ah, ah, ah, ah, ah, ah, ah, ah, ah, ah, ah, ah, ah, ah, ah, ah, ah, ah, ah, ah, ah, ah, ah, ah, ah, ah, ah, ah, ah, ah, ah, ah, ah, ah, ah, ah, ah, ah, ah, ah, ah, ah, ah, ah, ah, ah, ah, ah, ah, slE Enc.str y40 (some t41)], .obj o1 [.v (.int .u32 0), .v (.int .i32 1), .v (.int .u32 0), .v .nilIface, slE Enc.str entOld q2], .tok t41 9]⟩) (fun (y40, t41) => kv y40 = some r) ?_ ?_
  ·refine af <| aa ?_;show AR _ _ _ _ _ [0, 1, 2, 3, 4] _;refine zm rfl <| zS rfl (al (n := 0) (by kernel_rfl) rfl) <| zS rfl (bx (Ar := 0) (k := 1) (m := 38) bW (by kernel_rfl) rfl rfl rfl (by decide)) <| zR rfl (am (i := 0) ac rfl rfl rfl rfl) <| zS rfl (ky (.inl rfl) ac rfl rfl) <| ag <| az rfl (fun _ => ?_) (fun hx => bS rfl hx);obtain ⟨g37, H⟩ := ay H;obtain ⟨x38, e39, H⟩ := bg H;refine aa ?_;show AR _ _ _ _ _ [0, 1, 2, 3, 4, 5, 6, 7, 8] _;refine zS rfl (al (n := 256) (by kernel_rfl) rfl) <| zR rfl (am (i := 0) ao rfl rfl rfl rfl) <| zm rfl <| zR rfl (bQ (E := Enc.byte) (bytes := 1) (xs := [.tmp 120]) (l := ([38] : List UInt8)) ac (by kernel_rfl) rfl rfl (by decide) rfl rfl) <| zS rfl (cW ac aY ab rfl) <| zR rfl (bQ (E := Enc.str) (bytes := 16) (xs := [.tmp 122]) (l := ([([38] : List UInt8)] : List (List UInt8))) ao (by kernel_rfl) rfl rfl (by decide) rfl rfl) <| zX rfl (cE (E := Enc.str) (bytes := 16) 2 ao ao rfl (by kernel_rfl) rfl rfl rfl rfl g37 e39) ?_;rintro _ _ ⟨t36, rfl, rfl⟩;refine zS rfl (al (n := 256) (by kernel_rfl) rfl) <| s0 rfl rfl (aw (i := 0) (c := slE _ _ _) (by kernel_rfl) rfl rfl rfl rfl (ai rfl)) <| ag ?_
   exact Exists.intro (x38, t36) ⟨H, aP [0, 0, 0] (.cons (.refl _) (.cons (.refl _) (.cons (.refl _) (.cons (.refl _) (.cons (.refl _) (.nil _)))))) rfl⟩
  rintro ⟨y40, t41⟩ H;replace H : kv y40 = some r := H
  unfold kv at H
  obtain ⟨g43, H⟩ := ay H;refine aa ?_;show AR _ _ _ _ _ [0, 1, 2, 3, 4, 5] _;refine zm rfl <| zm rfl <| zR rfl (OpX.still (cy (bytes := 1) ab ac aY rfl g43)) <| zS rfl (al (n := 0) (by kernel_rfl) rfl) <| zS rfl (bx (Ar := 0) (k := 1) (m := 38) bW (by kernel_rfl) rfl rfl rfl (by decide)) <| s0 rfl rfl (aw (i := 0) (c := slE _ _ _) (by kernel_rfl) rfl rfl rfl rfl (ai rfl)) <| ag <| aa ?_;show AR _ _ _ _ _ [0, 1, 2] _;refine zm rfl <| zS rfl (bo (av' := i64 (-2)) (eL rfl rfl (by decide)) rfl) <| za rfl <| ag <| af <| af <| aa ?_;show AR _ _ _ _ _ [0, 1] _;refine zm rfl <| zS rfl (bo (av' := B false) (dz rfl rfl) (aA (by decide))) <| ag <| az rfl (fun hx => bS hx rfl) (fun _ => ?_);refine bZ ?_;exact Exists.intro (y40, t41) ⟨H, aP [0, 0, 0] (.cons (.refl _) (.nil _)) rfl⟩
 rintro ⟨y44, t45⟩ H;replace H : kw y44 = some r := H
 unfold kw at H
 refine af <| aa ?_;show AR _ _ _ _ _ [0, 1] _;refine AR.freezeCp 11 0 rfl rfl <| zS rfl (bw (a := .cp _) Tryz.underlying236 rfl rfl) <| zS rfl (aB (av := .ifc _ _) rfl) <| ag <| aL ?_;obtain rfl := ap H;exact And.intro rfl ⟨_, _, aH rfl (.refl _), aI [0] rfl, t45, by kernel_rfl, rfl⟩
set_option maxRecDepth 100000 in
set_option maxHeartbeats 1000000 in
theorem w_rp_New (F : Nat) (q1 : Option Nat) (H : rp_New F = some ()) : ACalls Tryz.prog 60 [slE Enc.str entOld q1] [] (fun e A' => ∃ o t : Nat, e = .ret (.pt o 0) ∧ A' = [.obj o [.v (.int .u32 0), .v (.int .i32 0), .v (.int .u32 0), .v .nilIface, slE Enc.str entOld (some t)]]) := by
 unfold rp_New at H
 refine ax Tryz.func60 rfl rfl ?_;show AW _ _ 12 _ _ _;refine af <| aa ?_;show AR _ _ _ _ _ [0] _;refine za rfl <| ag <| bk (X := Unit) (fun _ => ⟨[(0, slE Enc.str entOld q1)], [], []⟩) (fun _ => mE = some ()) ?_ ?_
 ·refine af ?_;obtain ⟨g2, H⟩ := ay H;refine aa ?_;show AR _ _ _ _ _ [0, 1, 2, 3] _;refine zS rfl (aj (av := slE _ _ _) rfl) <| zS rfl (bo (av' := i64 8) (aQ ao rfl) rfl) <| zS rfl (bo (av' := i64 0) (lS rfl rfl g2) rfl) <| zS rfl (bo (av' := B false) (cJ rfl rfl) (aA (by decide))) <| ag <| az rfl (fun hx => bS hx rfl) (fun _ => ?_);refine aC ?_;exact Exists.intro () ⟨H, aP [] (.cons (.refl _) (.nil _)) rfl⟩
 rintro _ H;replace H : mE = some () := H
 unfold mE at H
 refine af ?_;obtain ⟨g5, H⟩ := ay H;refine aa ?_;show AR _ _ _ _ _ [0, 1, 2, 3, 4] _;refine zS rfl (aj (av := slE _ _ _) rfl) <| zX rfl (oh (E := Enc.str) (bytes := 16) ao ao rfl (by kernel_rfl) rfl rfl rfl g5) ?_;rintro _ _ ⟨t4, rfl, rfl⟩;refine zS rfl (du (zs := [(.int .u32 0), (.int .i32 0), (.int .u32 0), .nilIface, .slice none 0 0]) (ps := [(0, 3), (3, 1), (4, 1)]) (cs := [.v (.int .u32 0), .v (.int .i32 0), .v (.int .u32 0), .v .nilIface, slE Enc.str entOld (some t4)]) (by kernel_rfl) rfl rfl) <| zX rfl (qd rfl (.inr ⟨_, rfl⟩)) ?_;rintro _ _ ⟨o6, rfl, rfl⟩;refine zS rfl (aB (av := .pt _ _) rfl) <| ag <| aL ?_;exact And.intro rfl ⟨_, _, aH rfl (.refl _), aI [0] rfl, _, _, rfl, rfl⟩
set_option maxRecDepth 100000 in
set_option maxHeartbeats 1000000 in
theorem sG (F : Nat) (q1 : Option Nat) (a2 : List UInt8) (r3 : List UInt8) (H : fK F a2 = some r3) : ACalls Tryz.prog 307 [.cp (eX entRep q1), S a2] [] (Ret (S r3) []) := by
 unfold fK at H
 refine ax Tryz.func307 rfl rfl ?_;show AW _ _ 122 _ _ _;refine af <| aa ?_;show AR _ _ _ _ _ [0] _;refine za rfl <| ag <| af <| aa ?_;show AR _ _ _ _ _ [0, 1, 2] _;refine zm rfl <| zS rfl (aU ab rfl) <| za rfl <| ag <| af <| aa ?_;show AR _ _ _ _ _ [0] _;refine za rfl <| ag <| bk (X := Int × Bool) (fun (y55, y56) => ⟨[(0, .cp (eX entRep q1)), (1, S a2), (5, i64 y55), (6, B y56)], [], []⟩) (fun (y55, y56) => dw F a2 y55 y56 = some r3) ?_ ?_
 ·refine af ?_;obtain ⟨g4, H⟩ := ay H;refine aa ?_;show AR _ _ _ _ _ [0, 1, 2, 3, 4, 5, 6, 7, 8] _;refine zS rfl (aj (av := .cp _) rfl) <| zS rfl (aR rfl) <| zS rfl (bo (av' := .cp [slE Enc.str entRep q1]) (aV (n := 256) (by kernel_rfl) rfl (entLe _)) (wN _)) <| zS rfl (aJ ao rfl rfl) <| zS rfl (aQ ao rfl) <| zS rfl (kf rfl rfl g4) <| zm rfl <| zS rfl (aU ab rfl) <| zS rfl (dI rfl rfl) <| ag <| az rfl (fun c5 => ?_) (fun c5 => ?_)
  ·replace H := aZ c5 H;refine af <| aa ?_;show AR _ _ _ _ _ [0, 1, 2, 3, 4, 5] _;refine zS rfl (aj (av := .cp _) rfl) <| zS rfl (aR rfl) <| zS rfl (bo (av' := .cp [slE Enc.str entRep q1]) (aV (n := 256) (by kernel_rfl) rfl (entLe _)) (wN _)) <| zS rfl (aJ ao rfl rfl) <| zS rfl (aQ ao rfl) <| zm rfl <| ag <| aO <| cl (X := Nat × Int × Bool × Int) (fun (n10, y6, y7, y8) => ⟨[(0, .cp (eX entRep q1)), (1, S a2), (5, i64 y6), (6, B y7), (30, slE Enc.str entRep q1), (31, i64 (entRep.length : Int)), (32, i64 y8)], [], []⟩) (fun (n10, y6, y7, y8) => cM F a2 n10 (y6, y7, y8) = some r3) (fun (n10, y6, y7, y8) => n10) (F, (a2.length : Int), false, 0) H (aP [] (.cons (.refl _) (.cons (.refl _) (.cons (.refl _) (.cons (.refl _) (.cons (.refl _) (.cons (.refl _) (.cons (.refl _) (.nil _)))))))) rfl) ?_;rintro ⟨n10, y6, y7, y8⟩ H;obtain ⟨n10, rfl, H⟩ := cO H;replace H : eE F a2 (cM F a2 n10) y6 y7 y8 = some r3 := H
   unfold eE at H
   refine af <| aa ?_;show AR _ _ _ _ _ [0] _;refine zS rfl (bC rfl rfl) <| ag <| af <| az rfl (fun c11 => ?_) (fun c11 => ?_)
   ·replace H := aZ c11 H;refine aC <| bk (X := Int × Bool) (fun (y28, y29) => ⟨[(0, .cp (eX entRep q1)), (1, S a2), (5, i64 y28), (6, B y29), (30, slE Enc.str entRep q1), (31, i64 (entRep.length : Int)), (32, i64 y8)], [], []⟩) (fun (y28, y29) => fm y8 (cM F a2 n10) y28 y29 = some r3) ?_ ?_
    ·refine aO <| af ?_;obtain ⟨g12, H⟩ := ay H;obtain ⟨x13, e14, H⟩ := bg H;refine aa ?_;show AR _ _ _ _ _ [0, 1, 2] _;refine zS rfl (cn (E := Enc.str) ao (by kernel_rfl) rfl rfl g12 e14) <| zS rfl (aJ ab rfl rfl) <| za rfl <| ag <| af ?_;obtain ⟨g15, H⟩ := ay H;obtain ⟨x16, e17, H⟩ := bg H;refine aa ?_;show AR _ _ _ _ _ [0, 1, 2, 3] _;refine zm rfl <| zm rfl <| aq rfl rfl (aD rfl xZ rfl (show ACalls _ _ _ [] (Ret (i64 x16) []) from by subst e17; exact vF a2 x13 (of_decide_eq_true g15)) ?_);refine za rfl <| ag <| af <| aa ?_;show AR _ _ _ _ _ [0, 1] _;refine zm rfl <| zS rfl (dg rfl rfl) <| ag <| az rfl (fun c18 => ?_) (fun c18 => ?_)
     ·replace H := aZ c18 H;refine af ?_;obtain ⟨g19, H⟩ := ay H;obtain ⟨x20, e21, H⟩ := bg H;obtain ⟨g22, H⟩ := ay H;obtain ⟨x23, e24, H⟩ := bg H;obtain ⟨g25, H⟩ := ay H;obtain ⟨g26, H⟩ := ay H;obtain ⟨g27, H⟩ := ay H;refine bz (by kernel_rfl) ?_;show AI _ _ _ _ _ 14 (Array.replicate 14 false) _;refine zk 0 rfl (mv rfl) ?_;show AI _ _ _ _ _ _ #[true, false, false, false, false, false, false, false, false, false, false, false, false, false] _;refine zk 1 rfl (mv rfl) ?_;show AI _ _ _ _ _ _ #[true, true, false, false, false, false, false, false, false, false, false, false, false, false] _;refine zk 2 rfl (aj (av := .cp _) rfl) ?_;show AI _ _ _ _ _ _ #[true, true, true, false, false, false, false, false, false, false, false, false, false, false] _;refine zk 3 rfl (mv rfl) ?_;show AI _ _ _ _ _ _ #[true, true, true, true, false, false, false, false, false, false, false, false, false, false] _;refine zk 4 rfl (bj ab rfl rfl g19 e21) ?_;show AI _ _ _ _ _ _ #[true, true, true, true, true, false, false, false, false, false, false, false, false, false] _;refine zk 5 rfl (aR rfl) ?_;show AI _ _ _ _ _ _ #[true, true, true, true, true, true, false, false, false, false, false, false, false, false] _;refine zk 6 rfl (bo (aV (n := 0) (by kernel_rfl) rfl (Nat.zero_le _)) rfl) ?_;show AI _ _ _ _ _ _ #[true, true, true, true, true, true, true, false, false, false, false, false, false, false] _
      refine zk 7 rfl (dn (E := Enc.ob) (l := iR) (post := [slE Enc.str entRep q1]) rfl bW (by kernel_rfl) rfl rfl (by decide) g22 e24 rfl) ?_;show AI _ _ _ _ _ _ #[true, true, true, true, true, true, true, true, false, false, false, false, false, false] _;refine aX (i := 8) (by kernel_rfl) rfl rfl <| aW rfl (OpS.opR (rb (aJ (c := ob x23) ac rfl rfl) (ob_sl _)) _) ?_;show AI _ _ _ _ _ _ #[true, true, true, true, true, true, true, true, true, false, false, false, false, false] _;refine zk 9 rfl (aQ ac rfl) ?_;show AI _ _ _ _ _ _ #[true, true, true, true, true, true, true, true, true, true, false, false, false, false] _;refine zk 10 rfl (eL rfl rfl g25) ?_;show AI _ _ _ _ _ _ #[true, true, true, true, true, true, true, true, true, true, true, false, false, false] _;refine zk 11 rfl (kf rfl rfl g26) ?_;show AI _ _ _ _ _ _ #[true, true, true, true, true, true, true, true, true, true, true, true, false, false] _;refine zk 12 rfl (bu rfl rfl g27) ?_;show AI _ _ _ _ _ _ #[true, true, true, true, true, true, true, true, true, true, true, true, true, false] _;refine zk 13 rfl (asg rfl) ?_;show AI _ _ _ _ _ _ #[true, true, true, true, true, true, true, true, true, true, true, true, true, true] _;refine bE rfl <| aa ?_;show AR _ _ _ _ _ [0] _;refine za rfl <| ag ?_
      exact Exists.intro (y6 + (x16 * (((x23.getD []).length : Int) - 1)), true) ⟨H, aP [] (.cons (.refl _) (.cons (.refl _) (.cons (.refl _) (.cons (.refl _) (.cons (.refl _) (.cons (.refl _) (.cons (.refl _) (.nil _)))))))) rfl⟩
     ·replace H := ba c18 H;refine aC ?_;exact Exists.intro (y6, y7) ⟨H, aP [] (.cons (.refl _) (.cons (.refl _) (.cons (.refl _) (.cons (.refl _) (.cons (.refl _) (.cons (.refl _) (.cons (.refl _) (.nil _)))))))) rfl⟩
    rintro ⟨y28, y29⟩ H;replace H : fm y8 (cM F a2 n10) y28 y29 = some r3 := H
    unfold fm at H
    obtain ⟨g31, H⟩ := ay H;refine aa ?_;show AR _ _ _ _ _ [0, 1] _;refine zS rfl (bu rfl rfl g31) <| zm rfl <| ag ?_;exact Exists.intro (n10, y28, y29, y8 + 1) ⟨H, Nat.lt_succ_self _, aP [] (.cons (.refl _) (.cons (.refl _) (.cons (.refl _) (.cons (.refl _) (.cons (.refl _) (.cons (.refl _) (.cons (.refl _) (.nil _)))))))) rfl⟩
   ·replace H := ba c11 H;refine bZ ?_;exact Exists.intro (y6, y7) ⟨H, aP [] (.cons (.refl _) (.cons (.refl _) (.cons (.refl _) (.cons (.refl _) (.nil _))))) rfl⟩
  ·replace H := ba c5 H;refine af <| aa ?_;show AR _ _ _ _ _ [0] _;refine za rfl <| ag <| aO <| cl (X := Nat × Int × Bool × Int) (fun (n36, y32, y33, y34) => ⟨[(0, .cp (eX entRep q1)), (1, S a2), (5, i64 y32), (6, B y33), (10, i64 y34)], [], []⟩) (fun (n36, y32, y33, y34) => eC F a2 n36 (y32, y33, y34) = some r3) (fun (n36, y32, y33, y34) => n36) (F, (a2.length : Int), false, 0) H (aP [] (.cons (.refl _) (.cons (.refl _) (.cons (.refl _) (.cons (.refl _) (.cons (.refl _) (.nil _)))))) rfl) ?_;rintro ⟨n36, y32, y33, y34⟩ H;obtain ⟨n36, rfl, H⟩ := cO H;replace H : fY F a2 (eC F a2 n36) y32 y33 y34 = some r3 := H
   unfold fY at H
   refine af <| af <| aa ?_;show AR _ _ _ _ _ [0, 1, 2, 3] _;refine zm rfl <| zm rfl <| zS rfl (aU ab rfl) <| zS rfl (bC rfl rfl) <| ag <| az rfl (fun c37 => ?_) (fun c37 => ?_)
   ·replace H := aZ c37 H;refine aC <| bk (X := Int × Bool) (fun (y51, y52) => ⟨[(0, .cp (eX entRep q1)), (1, S a2), (5, i64 y51), (6, B y52), (10, i64 y34)], [], []⟩) (fun (y51, y52) => fk y34 (eC F a2 n36) y51 y52 = some r3) ?_ ?_
    ·refine aO <| af ?_;obtain ⟨g38, H⟩ := ay H;obtain ⟨x39, e40, H⟩ := bg H;refine aa ?_;show AR _ _ _ _ _ [0, 1, 2, 3] _;refine zm rfl <| zm rfl <| zS rfl (bj ab rfl rfl g38 e40) <| za rfl <| ag <| af ?_;obtain ⟨g41, H⟩ := ay H;obtain ⟨x42, e43, H⟩ := bg H;obtain ⟨g44, H⟩ := ay H;refine aa ?_;show AR _ _ _ _ _ [0, 1, 2, 3, 4, 5, 6] _;refine zS rfl (aj (av := .cp _) rfl) <| zm rfl <| zS rfl (aR rfl) <| zS rfl (bo (aV (n := 0) (by kernel_rfl) rfl (Nat.zero_le _)) rfl) <| zS rfl (dn (E := Enc.ob) (l := iR) (post := [slE Enc.str entRep q1]) rfl bW (by kernel_rfl) rfl rfl (by decide) g41 e43 rfl) <| zS rfl (aJ (c := ob x42) ac rfl rfl) <| zS rfl (nA (.inr rfl) ac rfl rfl g44) <| ag <| az rfl (fun c45 => ?_) (fun c45 => ?_)
     ·replace H := aZ c45 H;refine af ?_;obtain ⟨g46, H⟩ := ay H;obtain ⟨x47, e48, H⟩ := bg H;obtain ⟨g49, H⟩ := ay H;obtain ⟨g50, H⟩ := ay H;refine aa ?_;show AR _ _ _ _ _ [0, 1, 2, 3, 4, 5, 6, 7, 8, 9, 10] _;refine zm rfl <| zS rfl (aj (av := .cp _) rfl) <| zm rfl <| zS rfl (aR rfl) <| zS rfl (bo (aV (n := 0) (by kernel_rfl) rfl (Nat.zero_le _)) rfl) <| zS rfl (dn (E := Enc.ob) (l := iR) (post := [slE Enc.str entRep q1]) rfl bW (by kernel_rfl) rfl rfl (by decide) g46 e48 rfl) <| zS rfl (rb (aJ (c := ob x47) ac rfl rfl) (ob_sl _)) <| zS rfl (aQ ac rfl) <| zS rfl (eL rfl rfl g49) <| zS rfl (bu rfl rfl g50) <| za rfl <| ag <| aa ?_;show AR _ _ _ _ _ [0] _;refine za rfl <| ag ?_;exact Exists.intro (y32 + (((x47.getD []).length : Int) - 1), true) ⟨H, aP [] (.cons (.refl _) (.cons (.refl _) (.cons (.refl _) (.cons (.refl _) (.cons (.refl _) (.nil _)))))) rfl⟩
     ·replace H := ba c45 H;refine aC ?_;exact Exists.intro (y32, y33) ⟨H, aP [] (.cons (.refl _) (.cons (.refl _) (.cons (.refl _) (.cons (.refl _) (.cons (.refl _) (.nil _)))))) rfl⟩
    rintro ⟨y51, y52⟩ H;replace H : fk y34 (eC F a2 n36) y51 y52 = some r3 := H
    unfold fk at H
    obtain ⟨g54, H⟩ := ay H;refine aa ?_;show AR _ _ _ _ _ [0, 1, 2] _;refine zm rfl <| zS rfl (bu rfl rfl g54) <| za rfl <| ag ?_;exact Exists.intro (n36, y51, y52, y34 + 1) ⟨H, Nat.lt_succ_self _, aP [] (.cons (.refl _) (.cons (.refl _) (.cons (.refl _) (.cons (.refl _) (.cons (.refl _) (.nil _)))))) rfl⟩
   ·replace H := ba c37 H;refine bZ ?_;exact Exists.intro (y32, y33) ⟨H, aP [] (.cons (.refl _) (.cons (.refl _) (.cons (.refl _) (.cons (.refl _) (.nil _))))) rfl⟩
 rintro ⟨y55, y56⟩ H;replace H : dw F a2 y55 y56 = some r3 := H
 unfold dw at H
 refine af <| af <| aa ?_;show AR _ _ _ _ _ [0, 1] _;refine zm rfl <| zS rfl (cx rfl) <| ag <| az rfl (fun c58 => ?_) (fun c58 => ?_)
 ·replace H := aZ c58 H;refine af <| aa ?_;show AR _ _ _ _ _ [0, 1] _;refine zm rfl <| za rfl <| ag <| aL ?_;obtain rfl := ap H;exact And.intro rfl (Exists.intro _ (Exists.intro _ ⟨aH rfl (.refl _), aI [] rfl, rfl, rfl⟩))
 ·replace H := ba c58 H;refine aC <| af ?_;obtain ⟨g59, H⟩ := ay H;refine aa ?_;show AR _ _ _ _ _ [0, 1, 2] _;refine zm rfl <| zX rfl (uc (E := Enc.byte) (bytes := 1) (zv := 0) ac (by kernel_rfl) (by kernel_rfl) rfl rfl rfl rfl rfl g59) ?_;rintro _ _ ⟨o60, rfl, rfl⟩;refine zS rfl (aB (av := .vw _ _ _ _) rfl) <| ag <| af <| aa ?_;show AR _ _ _ _ _ [0] _;refine za rfl <| ag <| bk (X := (List UInt8)) (fun y93 => ⟨[(12, .vw o60 0 (Int.toNat y55) (Int.toNat y55))], [], [.obj o60 (Enc.byte.fl y93 ++ List.replicate 0 .any)]⟩) (fun y93 => fX y55 y93 = some r3) ?_ ?_
  ·refine af <| aa ?_;show AR _ _ _ _ _ [0] _;refine za rfl <| ag <| aO <| cl (X := Nat × Int × Int × (List UInt8)) (fun (n65, y61, y62, y63) => ⟨[(0, .cp (eX entRep q1)), (1, S a2), (12, .vw o60 0 (Int.toNat y55) (Int.toNat y55)), (13, i64 y61), (14, i64 y62)], [], [.obj o60 (Enc.byte.fl y63 ++ List.replicate 0 .any)]⟩) (fun (n65, y61, y62, y63) => eD a2 y55 n65 (y61, y62, y63) = some r3) (fun (n65, y61, y62, y63) => n65) (F, 0, 0, List.replicate (Int.toNat y55) 0) H (aP [0] (.cons (.refl _) (.cons (.refl _) (.cons (.refl _) (.cons (.refl _) (.cons (.refl _) (.nil _)))))) rfl) ?_;rintro ⟨n65, y61, y62, y63⟩ H;obtain ⟨n65, rfl, H⟩ := cO H;replace H : fZ a2 y55 (eD a2 y55 n65) y61 y62 y63 = some r3 := H
   unfold fZ at H
   refine af <| af <| aa ?_;show AR _ _ _ _ _ [0, 1, 2, 3] _;refine zm rfl <| zm rfl <| zS rfl (aU ab rfl) <| zS rfl (bC rfl rfl) <| ag <| az rfl (fun c66 => ?_) (fun c66 => ?_)
   ·replace H := aZ c66 H;refine aC <| bk (X := Int × (List UInt8)) (fun (y89, y90) => ⟨[(0, .cp (eX entRep q1)), (1, S a2), (12, .vw o60 0 (Int.toNat y55) (Int.toNat y55)), (13, i64 y89), (14, i64 y62)], [], [.obj o60 (Enc.byte.fl y90 ++ List.replicate 0 .any)]⟩) (fun (y89, y90) => fp y62 (eD a2 y55 n65) y89 y90 = some r3) ?_ ?_
    ·refine aO <| af ?_;obtain ⟨g67, H⟩ := ay H;obtain ⟨x68, e69, H⟩ := bg H;refine aa ?_;show AR _ _ _ _ _ [0, 1, 2, 3] _;refine zm rfl <| zm rfl <| zS rfl (bj ab rfl rfl g67 e69) <| za rfl <| ag <| af ?_;obtain ⟨g70, H⟩ := ay H;obtain ⟨x71, e72, H⟩ := bg H;obtain ⟨g73, H⟩ := ay H;refine aa ?_;show AR _ _ _ _ _ [0, 1, 2, 3, 4, 5, 6] _;refine zS rfl (aj (av := .cp _) rfl) <| zm rfl <| zS rfl (aR rfl) <| zS rfl (bo (aV (n := 0) (by kernel_rfl) rfl (Nat.zero_le _)) rfl) <| zS rfl (dn (E := Enc.ob) (l := iR) (post := [slE Enc.str entRep q1]) rfl bW (by kernel_rfl) rfl rfl (by decide) g70 e72 rfl) <| zS rfl (aJ (c := ob x71) ac rfl rfl) <| zS rfl (nA (.inr rfl) ac rfl rfl g73) <| ag <| az rfl (fun c74 => ?_) (fun c74 => ?_)
     ·replace H := aZ c74 H;obtain ⟨g75, H⟩ := ay H;obtain ⟨g76, H⟩ := ay H;obtain ⟨x77, e78, H⟩ := bg H;obtain ⟨g79, H⟩ := ay H;obtain ⟨g80, H⟩ := ay H;obtain ⟨x81, e82, H⟩ := bg H;obtain ⟨g83, H⟩ := ay H;refine bz (by kernel_rfl) ?_;show AI _ _ _ _ _ 13 (Array.replicate 13 false) _;refine zk 0 rfl (mv rfl) ?_;show AI _ _ _ _ _ _ #[true, false, false, false, false, false, false, false, false, false, false, false, false] _;refine zk 1 rfl (aj (av := .vw _ _ _ _) rfl) ?_;show AI _ _ _ _ _ _ #[true, true, false, false, false, false, false, false, false, false, false, false, false] _;refine zk 2 rfl (mv rfl) ?_;show AI _ _ _ _ _ _ #[true, true, true, false, false, false, false, false, false, false, false, false, false] _;refine zk 3 rfl (uj ac (by kernel_rfl) rfl rfl g75 (Nat.le_refl _)) ?_;show AI _ _ _ _ _ _ #[true, true, true, true, false, false, false, false, false, false, false, false, false] _;refine zk 4 rfl (aj (av := .cp _) rfl) ?_;show AI _ _ _ _ _ _ #[true, true, true, true, true, false, false, false, false, false, false, false, false] _;refine zk 5 rfl (mv rfl) ?_;show AI _ _ _ _ _ _ #[true, true, true, true, true, true, false, false, false, false, false, false, false] _;refine zk 6 rfl (aR rfl) ?_;show AI _ _ _ _ _ _ #[true, true, true, true, true, true, true, false, false, false, false, false, false] _;refine zk 7 rfl (bo (aV (n := 0) (by kernel_rfl) rfl (Nat.zero_le _)) rfl) ?_
      show AI _ _ _ _ _ _ #[true, true, true, true, true, true, true, true, false, false, false, false, false] _;refine zk 8 rfl (dn (E := Enc.ob) (l := iR) (post := [slE Enc.str entRep q1]) rfl bW (by kernel_rfl) rfl rfl (by decide) g76 e78 rfl) ?_;show AI _ _ _ _ _ _ #[true, true, true, true, true, true, true, true, true, false, false, false, false] _;refine aX (i := 9) (by kernel_rfl) rfl rfl <| aW rfl (OpS.opR (rb (aJ (c := ob x77) ac rfl rfl) (ob_sl _)) _) ?_;show AI _ _ _ _ _ _ #[true, true, true, true, true, true, true, true, true, true, false, false, false] _;refine aX (i := 10) (by kernel_rfl) rfl rfl <| aW rfl (vL (k := 0) ac (by kernel_rfl) rfl rfl rfl g79 g80 e82) ?_;show AI _ _ _ _ _ _ #[true, true, true, true, true, true, true, true, true, true, true, false, false] _;refine zk 11 rfl (bu rfl rfl g83) ?_;show AI _ _ _ _ _ _ #[true, true, true, true, true, true, true, true, true, true, true, true, false] _;refine zk 12 rfl (asg rfl) ?_;show AI _ _ _ _ _ _ #[true, true, true, true, true, true, true, true, true, true, true, true, true] _;refine bE rfl ?_;exact Exists.intro (y61 + ((x77.getD []).length : Int), x81) ⟨H, aP [0] (.cons (.refl _) (.cons (.refl _) (.cons (.refl _) (.cons (.refl _) (.cons (.refl _) (.nil _)))))) rfl⟩
     ·replace H := ba c74 H;refine af ?_;obtain ⟨g84, H⟩ := ay H;obtain ⟨g85, H⟩ := ay H;obtain ⟨x86, e87, H⟩ := bg H;refine aa ?_;show AR _ _ _ _ _ [0, 1, 2, 3, 4] _;refine zS rfl (aj (av := .vw _ _ _ _) rfl) <| zm rfl <| zm rfl <| zS rfl (iZ ac (by kernel_rfl) rfl rfl g84) <| s0 rfl rfl (pE (k := 0) (c := x68) (by kernel_rfl) rfl rfl rfl g85 e87) <| ag ?_;obtain ⟨g88, H⟩ := ay H;refine aa ?_;show AR _ _ _ _ _ [0, 1, 2] _;refine zm rfl <| zS rfl (bu rfl rfl g88) <| za rfl <| ag ?_;exact Exists.intro (y61 + 1, x86) ⟨H, aP [0] (.cons (.refl _) (.cons (.refl _) (.cons (.refl _) (.cons (.refl _) (.cons (.refl _) (.nil _)))))) rfl⟩
    rintro ⟨y89, y90⟩ H;replace H : fp y62 (eD a2 y55 n65) y89 y90 = some r3 := H
    unfold fp at H
    obtain ⟨g92, H⟩ := ay H;refine aa ?_;show AR _ _ _ _ _ [0, 1, 2] _;refine zm rfl <| zS rfl (bu rfl rfl g92) <| za rfl <| ag ?_;exact Exists.intro (n65, y89, y62 + 1, y90) ⟨H, Nat.lt_succ_self _, aP [0] (.cons (.refl _) (.cons (.refl _) (.cons (.refl _) (.cons (.refl _) (.cons (.refl _) (.nil _)))))) rfl⟩
   ·replace H := ba c66 H;refine bZ ?_;exact Exists.intro y63 ⟨H, aP [0] (.cons (.refl _) (.nil _)) rfl⟩
  rintro y93 H;replace H : fX y55 y93 = some r3 := H
  unfold fX at H
  refine af ?_;obtain ⟨g95, H⟩ := ay H;refine aa ?_;show AR _ _ _ _ _ [0, 1, 2] _;refine zS rfl (aj (av := .vw _ _ _ _) rfl) <| zR rfl (kP (k := 0) ac aY ab rfl g95 rfl) <| za rfl <| ag <| aL ?_;obtain rfl := ap H;exact And.intro rfl (Exists.intro _ (Exists.intro _ ⟨aH rfl (.refl _), aI [] rfl, rfl, rfl⟩))
theorem en167_h : ∀ (args : Array Value) (w : World), (callFunc 167 args).run Tryz.prog w = .ok (.enter 167 args) w := fun _ _ => by kernel_rfl
theorem en214_h : ∀ (args : Array Value) (w : World), (callFunc 214 args).run Tryz.prog w = .ok (.enter 214 args) w := fun _ _ => by kernel_rfl
theorem en215_h : ∀ (args : Array Value) (w : World), (callFunc 215 args).run Tryz.prog w = .ok (.enter 215 args) w := fun _ _ => by kernel_rfl
theorem en216_h : ∀ (args : Array Value) (w : World), (callFunc 216 args).run Tryz.prog w = .ok (.enter 216 args) w := fun _ _ => by kernel_rfl
theorem wO : ∀ (args : Array Value) (w : World), (callFunc 165 args).run Tryz.prog w = .ok (.enter 165 args) w := fun _ _ => by kernel_rfl
theorem en117_h : ∀ (args : Array Value) (w : World), (callFunc 117 args).run Tryz.prog w = .ok (.enter 117 args) w := fun _ _ => by kernel_rfl
theorem en166_h : ∀ (args : Array Value) (w : World), (callFunc 166 args).run Tryz.prog w = .ok (.enter 166 args) w := fun _ _ => by kernel_rfl
theorem en116_h : ∀ (args : Array Value) (w : World), (callFunc 116 args).run Tryz.prog w = .ok (.enter 116 args) w := fun _ _ => by kernel_rfl
theorem en307_h : ∀ (args : Array Value) (w : World), (callFunc 307 args).run Tryz.prog w = .ok (.enter 307 args) w := fun _ _ => by kernel_rfl
theorem en60_h : ∀ (args : Array Value) (w : World), (callFunc 60 args).run Tryz.prog w = .ok (.enter 60 args) w := fun _ _ => by kernel_rfl
theorem en61_h : ∀ (args : Array Value) (w : World), (callFunc 61 args).run Tryz.prog w = .ok (.enter 61 args) w := fun _ _ => by kernel_rfl
abbrev rpC (d s : Int) (x y : AV) : List AV := [.v (.int .u32 d), .v (.int .i32 s), .v (.int .u32 0), x, y]
abbrev rpT (t : Nat) : AV := .ifc 236 (.cp (eX entRep (some t)))
set_option maxRecDepth 100000 in
theorem tV (o : Nat) (q : Option Nat) : ACalls Tryz.prog 117 [.pt o 0] [.obj o (rpC 0 1 (.v .nilIface) (slE Enc.str entOld q))] (fun e A' => ∃ t : Nat, e = .ret (.tup []) ∧ A' = [.obj o (rpC 0 1 (rpT t) ah)]) := by
 refine ax Tryz.func117 rfl rfl ?_;show AW _ _ 10 _ _ _;refine af <| aa ?_;show AR _ _ _ _ _ [0, 1, 2, 3, 4, 5] _;refine zS rfl (aj (av := .pt _ _) rfl) <| zS rfl (aj (av := .pt _ _) rfl) <| aq rfl rfl (dD [] rfl en167_h rfl (vn 0 o q entRep (by decide +kernel)) (bq _) ?_ (fun c A' h => by obtain ⟨t, h, _⟩ := h; cases h));rintro av A' ⟨t, h, rfl⟩
 cases h
 refine zS rfl (ar rfl) <| zS rfl (al (n := 3) (by kernel_rfl) rfl) <| s0 rfl rfl (aw (i := 0) (c := .ifc _ _) (by kernel_rfl) rfl rfl rfl rfl (ai rfl)) <| ag <| aa ?_;show AR _ _ _ _ _ [0, 1, 2, 3] _;refine zS rfl (aj (av := .pt _ _) rfl) <| zS rfl (ar rfl) <| zS rfl (al (n := 4) (by kernel_rfl) rfl) <| s0 rfl rfl (aw (i := 0) (c := .v _) (by kernel_rfl) rfl rfl rfl rfl (ai rfl)) <| ag ?_;exact And.intro rfl ⟨_, _, ck rfl, aI [0] rfl, t, rfl, rfl⟩
set_option maxRecDepth 100000 in
theorem w_doSlow (o : Nat) (q : Option Nat) : ACalls Tryz.prog 166 [.pt o 0, .fn (.func 117) [.pt o 0] []] [.obj o (rpC 0 0 (.v .nilIface) (slE Enc.str entOld q))] (fun e A' => ∃ t : Nat, e = .ret (.tup []) ∧ A' = [.obj o (rpC 1 0 (rpT t) ah)]) := by
 refine pY [] Tryz.func166 rfl rfl ?_;show AW _ _ 21 _ _ _;refine af <| aa ?_;show AR _ _ _ _ _ [0, 1, 2, 3] _;refine zS rfl (aj (av := .pt _ _) rfl) <| zS rfl (ar rfl) <| zS rfl (al (n := 1) (by kernel_rfl) rfl) <| aq rfl rfl (bI [0] rfl en214_h rfl (wW 0 o _ _ rfl) rfl (fun c A' h => by cases h.1) ?_)
 rintro av A' ⟨h, rfl⟩; cases h
 refine ag <| af <| aa ?_;show AR _ _ _ _ _ [0, 1, 2, 3] _;refine zS rfl (aj (av := .pt _ _) rfl) <| zS rfl (ar rfl) <| zS rfl (al (n := 1) (by kernel_rfl) rfl) <| aq rfl rfl (AO.deferFn rfl ?_);refine ag <| af <| aa ?_;show AR _ _ _ _ _ [0, 1, 2, 3, 4] _;refine zS rfl (aj (av := .pt _ _) rfl) <| zS rfl (ar rfl) <| zS rfl (al (n := 0) (by kernel_rfl) rfl) <| aq rfl rfl (bI [0] rfl wO rfl (rP 0 o 0 1 _ _ false rfl) rfl (fun c A' h => by cases h.1) ?_)
 rintro av A' ⟨h, rfl⟩; cases h
 refine zS rfl (cx rfl) <| ag <| az rfl (fun c => ?_) (fun c => by cases c);refine af <| aa ?_;show AR _ _ _ _ _ [0, 1, 2, 3] _;refine zS rfl (aj (av := .pt _ _) rfl) <| zS rfl (ar rfl) <| zS rfl (al (n := 0) (by kernel_rfl) rfl) <| aq rfl rfl (AO.deferFn rfl ?_);refine ag <| aa ?_;show AR _ _ _ _ _ [0, 1] _;refine zS rfl (aj (av := .fn _ _ _) rfl) <| aq rfl rfl (AO.callF [] rfl (.inl rfl) en117_h rfl (tV o q) (bq _) ?_ (fun c A' h => by obtain ⟨t, h, _⟩ := h; cases h));rintro av A' ⟨t, h, rfl⟩
 cases h
 refine ag ?_;show ALeaves _ _ _ _ _ [.call (.func 216) [] [.pt o 0, B true], .call (.func 215) [] [.pt o 1]] .returning [.obj o (rpC 0 1 (rpT t) ah)];refine ng (v := .tup []) (u1 := .returning) (A2 := [.obj o (rpC 1 1 (rpT t) ah)]) [0] (fun h => by cases h) en216_h rfl (wu .returning 0 o _ _ true 1 rfl) <| ng (v := .tup []) (u1 := .returning) (A2 := [.obj o (rpC 1 0 (rpT t) ah)]) [0] (fun h => by cases h) en215_h rfl (uO .returning 0 o 1 _ _ rfl) ?_;exact ⟨.tup [], _, ResT.none rfl, bp _, t, rfl, rfl⟩
set_option maxRecDepth 100000 in
theorem w_Do (o : Nat) (q : Option Nat) : ACalls Tryz.prog 116 [.pt o 0, .fn (.func 117) [.pt o 0] []] [.obj o (rpC 0 0 (.v .nilIface) (slE Enc.str entOld q))] (fun e A' => ∃ t : Nat, e = .ret (.tup []) ∧ A' = [.obj o (rpC 1 0 (rpT t) ah)]) := by
 refine ax Tryz.func116 rfl rfl ?_;show AW _ _ 12 _ _ _;refine af <| aa ?_;show AR _ _ _ _ _ [0, 1, 2, 3, 4] _;refine zS rfl (aj (av := .pt _ _) rfl) <| zS rfl (ar rfl) <| zS rfl (al (n := 0) (by kernel_rfl) rfl) <| aq rfl rfl (bI [0] rfl wO rfl (rP 0 o 0 0 _ _ false rfl) rfl (fun c A' h => by cases h.1) ?_)
 rintro av A' ⟨h, rfl⟩; cases h
 refine zS rfl (cx rfl) <| ag <| az rfl (fun c => ?_) (fun c => by cases c);refine aa ?_;show AR _ _ _ _ _ [0, 1, 2] _;refine zS rfl (aj (av := .pt _ _) rfl) <| zS rfl (aj (av := .fn _ _ _) rfl) <| aq rfl rfl (dD [] rfl en166_h rfl (w_doSlow o q) (bq _) ?_ (fun c A' h => by obtain ⟨t, h, _⟩ := h; cases h));rintro av A' ⟨t, h, rfl⟩
 cases h
 refine ag ?_;exact And.intro rfl ⟨_, _, ck rfl, aI [0] rfl, t, rfl, rfl⟩
set_option maxRecDepth 100000 in
theorem vy (F o : Nat) (q : Option Nat) (s r : List UInt8) (H : fK F s = some r) : ACalls Tryz.prog 61 [.pt o 0, S s] [.obj o (rpC 0 0 (.v .nilIface) (slE Enc.str entOld q))] (fun e A' => e = .ret (S r) ∧ A' = []) := by
 refine ax Tryz.func61 rfl rfl ?_;show AW _ _ 17 _ _ _;refine af <| aa ?_;show AR _ _ _ _ _ [0] _;refine za rfl <| ag <| af <| aa ?_;show AR _ _ _ _ _ [0, 1, 2, 3, 4, 5] _;refine zS rfl (aj (av := .pt _ _) rfl) <| zS rfl (ar rfl) <| zS rfl (al (n := 0) (by kernel_rfl) rfl) <| zS rfl (aj (av := .pt _ _) rfl) <| zS rfl (jm rfl rfl) <| aq rfl rfl (dD [] rfl en116_h rfl (w_Do o q) (bq _) ?_ (fun c A' h => by obtain ⟨t, h, _⟩ := h; cases h));rintro av A' ⟨t, h, rfl⟩
 cases h
 refine ag <| af <| aa ?_;show AR _ _ _ _ _ [0, 1, 2, 3, 4, 5, 6] _;refine zS rfl (aj (av := .pt _ _) rfl) <| zS rfl (ar rfl) <| zS rfl (al (n := 3) (by kernel_rfl) rfl) <| zR rfl (am (i := 0) Tryz.underlying142 rfl rfl rfl rfl) <| zm rfl <| aq rfl rfl (AO.invoke [.obj o (rpC 1 0 (rpT t) ah)] rfl rfl (fun v w => by kernel_rfl) en307_h rfl (sG F (some t) s r H) (bq _) ?_ (fun c A' h => by cases h.1));rintro av A' ⟨h, rfl⟩
 cases h
 refine za rfl <| ag <| aL ?_;exact And.intro rfl ⟨_, _, aH rfl (.refl _), bX _, rfl, rfl⟩
set_option maxRecDepth 100000 in
theorem uR (F : Nat) (s r : List UInt8) (H : fK F s = some r) : ACalls Tryz.prog 25 [S s] [] (Ret (S r) []) := by
 refine ax Tryz.func25 rfl rfl ?_;show AW _ _ 7 _ _ _;refine af <| aa ?_;show AR _ _ _ _ _ [0] _;refine za rfl <| ag <| af <| aa ?_;show AR _ _ _ _ _ [0, 1, 2, 3, 4] _;refine zR rfl (bQ (E := Enc.str) (bytes := 16) (xs := entOld.map fun l => .const (.string ⟨l.toArray⟩)) (l := entOld) ao (by kernel_rfl) rfl rfl (by decide) rfl rfl) <| aq rfl rfl (dD [] rfl en60_h rfl (w_rp_New 0 none (by decide +kernel)) (bq _) ?_ (fun c A' h => by obtain ⟨o, t, h, _⟩ := h; cases h));rintro av A' ⟨o, t, h, rfl⟩
 cases h
 refine zm rfl <| aq rfl rfl (dD [] rfl en61_h rfl (vy F o (some t) s r H) (bq _) ?_ (fun c A' h => by cases h.1));rintro av A' ⟨h, rfl⟩
 cases h
 refine za rfl <| ag <| aL ?_;exact And.intro rfl ⟨_, _, aH rfl (.refl _), bX _, rfl, rfl⟩
end Go.Proofs.YtjegcifofddgbaaGreatDoor
namespace Go.Pv
def mQ (F : Nat) (a1 : Int) (a2 : Int) (a3 : Int) : Option Bool :=
some ((decide (a2 ≤ a1)) && (decide (a1 ≤ a3)))
def kY (F : Nat) (a1 : UInt8) : Option Bool :=
lt (Go.Lib.indexByte ([9, 10, 13, 32] : List UInt8) a1) fun x3 =>
some (decide (0 ≤ x3))
def iI (y33 : List (List UInt8)) : Option ((List UInt8)) :=
grd (pP y33 ([32] : List UInt8)) <|
lt (Go.Av.Str.join ([32] : List UInt8) y33) fun x37 =>
some x37
def fF (y7 : Int) (rec8 : ((List (List UInt8)) × Int × Int) → Option ((List UInt8))) (y28 : List (List UInt8)) (y30 : Int) : Option ((List UInt8)) :=
grd (okI (y7 + 1)) <|
rec8 (y28, y30, y7 + 1)
def fG (F : Nat) (a1 : List UInt8) (rec8 : ((List (List UInt8)) × Int × Int) → Option ((List UInt8))) (y4 : List (List UInt8)) (y6 : Int) (y7 : Int) : Option ((List UInt8)) :=
bif decide (y7 ≤ (a1.length : Int)) then
  fV (!(decide (y7 = (a1.length : Int)))) (cD y7 a1.length) <|
  lt (at_ a1 y7) fun x13 =>
  kN (!(decide (y7 = (a1.length : Int)))) (kY F x13) fun x15 =>
  bif (!((decide (y7 = (a1.length : Int))) || x15)) && (decide (y6 < 0)) then
    fF y7 rec8 y4 y7
  else
    bif ((decide (y7 = (a1.length : Int))) || x15) && (decide (0 ≤ y6)) then
      grd (qa y6 y7 a1.length) <|
      lt (sub a1 y6 y7) fun x22 =>
      grd (bt (y4.length + ([x22] : List (List UInt8)).length)) <|
      lt (y4 ++ ([x22] : List (List UInt8))) fun x26 =>
      fF y7 rec8 x26 (-1)
    else
      fF y7 rec8 y4 y6
else
  iI y4
def dN (F : Nat) (a1 : List UInt8) (n : Nat) : ((List (List UInt8)) × Int × Int) → Option ((List UInt8)) :=
  loop (fun rec x => fG F a1 rec x.1 x.2.1 x.2.2) n
def kg (F : Nat) (a1 : List UInt8) : Option ((List UInt8)) :=
dN F a1 F ([], (-1), 0)
def gx (F : Nat) (a1 : List UInt8) (a2 : Int) (a3 : List UInt8) : Option Bool :=
fV (decide (a2 < (a1.length : Int))) (cD a2 a1.length) <|
lt (at_ a1 a2) fun x7 =>
lt (Go.Lib.indexByte a3 x7) fun x9 =>
some ((decide (a2 < (a1.length : Int))) && (decide (0 ≤ x9)))
def fy (a1 : List UInt8) (y24 : List UInt8) : Option ((List UInt8)) :=
grd (decide (y24.length = a1.length)) <|
some y24
def eP (y6 : Int) (rec8 : (Int × (List UInt8)) → Option ((List UInt8))) (y21 : List UInt8) : Option ((List UInt8)) :=
grd (okI (y6 + 1)) <|
rec8 (y6 + 1, y21)
def fA (a1 : List UInt8) (rec8 : (Int × (List UInt8)) → Option ((List UInt8))) (y6 : Int) (y7 : List UInt8) : Option ((List UInt8)) :=
bif decide (y6 < (a1.length : Int)) then
  grd (cD y6 a1.length) <|
  grd (cD y6 y7.length) <|
  lt (at_ y7 y6) fun x13 =>
  bif (decide (65 ≤ (x13.toNat : Int))) && (decide ((x13.toNat : Int) ≤ 90)) then
    grd (cD y6 a1.length) <|
    grd (cD y6 y7.length) <|
    lt (y7.set (Int.toNat y6) ((x13 + 97) - 65)) fun x19 =>
    eP y6 rec8 x19
  else
    eP y6 rec8 y7
else
  fy a1 y7
def dY (a1 : List UInt8) (n : Nat) : (Int × (List UInt8)) → Option ((List UInt8)) :=
  loop (fun rec x => fA a1 rec x.1 x.2) n
def gm (F : Nat) (a1 : List UInt8) : Option ((List UInt8)) :=
grd (bt a1.length) <|
dY a1 F (0, a1)
def gb (y71 : List (List UInt8)) : Option ((List (List UInt8))) :=
some y71
def fq (y12 : Int) (rec13 : ((List (List UInt8)) × Int) → Option ((List (List UInt8)))) (y67 : List (List UInt8)) : Option ((List (List UInt8))) :=
grd (okI (y12 + 1)) <|
rec13 (y67, y12 + 1)
def ga (y12 : Int) (rec13 : ((List (List UInt8)) × Int) → Option ((List (List UInt8)))) (y59 : List (List UInt8)) (y61 : List UInt8) : Option ((List (List UInt8))) :=
grd (bt (y59.length + ([y61] : List (List UInt8)).length)) <|
lt (y59 ++ ([y61] : List (List UInt8))) fun x65 =>
fq y12 rec13 x65
def dL (y32 : Int) (rec33 : ((List (List UInt8)) × (List UInt8) × Bool × Int) → Option ((List (List UInt8)))) (y53 : List (List UInt8)) (y55 : List UInt8) (y56 : Bool) : Option ((List (List UInt8))) :=
grd (okI (y32 + 1)) <|
rec33 (y53, y55, y56, y32 + 1)
def eF (a2 : Int) (y12 : Int) (x23 : List (List UInt8)) (rec13 : ((List (List UInt8)) × Int) → Option ((List (List UInt8)))) (rec33 : ((List (List UInt8)) × (List UInt8) × Bool × Int) → Option ((List (List UInt8)))) (y28 : List (List UInt8)) (y30 : List UInt8) (y31 : Bool) (y32 : Int) : Option ((List (List UInt8))) :=
bif decide (y32 < (x23.length : Int)) then
  grd (cD y32 x23.length) <|
  lt (at_ x23 y32) fun x37 =>
  bif y31 then
    dL y32 rec33 y28 x37 false
  else
    grd (okI ((y30.length : Int) + 1)) <|
    grd (okI (((y30.length : Int) + 1) + (x37.length : Int))) <|
    bif decide (((y30.length : Int) + 1) + (x37.length : Int) ≤ a2) then
      grd (bt (([32] : List UInt8).length + x37.length)) <|
      lt (([32] : List UInt8) ++ x37) fun x44 =>
      grd (bt (y30.length + x44.length)) <|
      lt (y30 ++ x44) fun x47 =>
      dL y32 rec33 y28 x47 y31
    else
      grd (bt (y28.length + ([y30] : List (List UInt8)).length)) <|
      lt (y28 ++ ([y30] : List (List UInt8))) fun x51 =>
      dL y32 rec33 x51 x37 y31
else
  ga y12 rec13 y28 y30
def dM (a2 : Int) (y12 : Int) (x23 : List (List UInt8)) (rec13 : ((List (List UInt8)) × Int) → Option ((List (List UInt8)))) (n : Nat) : ((List (List UInt8)) × (List UInt8) × Bool × Int) → Option ((List (List UInt8))) :=
  loop (fun rec x => eF a2 y12 x23 rec13 rec x.1 x.2.1 x.2.2.1 x.2.2.2) n
def gc (F : Nat) (a2 : Int) (x8 : List (List UInt8)) (rec13 : ((List (List UInt8)) × Int) → Option ((List (List UInt8)))) (y10 : List (List UInt8)) (y12 : Int) : Option ((List (List UInt8))) :=
bif decide (y12 < (x8.length : Int)) then
  grd (cD y12 x8.length) <|
  lt (at_ x8 y12) fun x17 =>
  bnd (kg F x17) fun x19 =>
  grd (okS x19.length) <|
  grd (decide (1 ≤ ([32] : List UInt8).length)) <|
  lt (Go.Lib.split x19 ([32] : List UInt8)) fun x23 =>
  dM a2 y12 x23 rec13 F (y10, ([] : List UInt8), true, 0)
else
  gb y10
def ce (F : Nat) (a2 : Int) (x8 : List (List UInt8)) (n : Nat) : ((List (List UInt8)) × Int) → Option ((List (List UInt8))) :=
  loop (fun rec x => gc F a2 x8 rec x.1 x.2) n
def ib (F : Nat) (a1 : List UInt8) (a2 : Int) : Option ((List (List UInt8))) :=
bif decide (a2 < 1) then
  some []
else
  grd (okS a1.length) <|
  grd (decide (1 ≤ ([10] : List UInt8).length)) <|
  lt (Go.Lib.split a1 ([10] : List UInt8)) fun x8 =>
  ce F a2 x8 F ([], 0)
end Go.Pv
namespace Go.Proofs.YtjegcifofddgbaaGreatDoor
open Go.RowKit Go.Av Go.Pv
theorem sk : ∀ (args : Array Value) (w : World), (callFunc 64 args).run Tryz.prog w = .ok (.enter 64 args) w := fun _ _ => by kernel_rfl
theorem xx : ∀ (args : Array Value) (w : World), (callFunc 95 args).run Tryz.prog w = .ok (.enter 95 args) w := fun _ _ => by kernel_rfl
theorem sj : ∀ (args : Array Value) (w : World), (callFunc 96 args).run Tryz.prog w = .ok (.enter 96 args) w := fun _ _ => by kernel_rfl
theorem xw : ∀ (args : Array Value) (w : World), (callFunc 97 args).run Tryz.prog w = .ok (.enter 97 args) w := fun _ _ => by kernel_rfl
theorem wt : ∀ (args : Array Value) (w : World), (callFunc 146 args).run Tryz.prog w = .ok (.enter 146 args) w := fun _ _ => by kernel_rfl
abbrev _root_.Go.Av.ak := @Bool.eq_false_or_eq_true
set_option maxRecDepth 100000 in
set_option maxHeartbeats 1000000 in
theorem ou (F : Nat) (a1 : Int) (a2 : Int) (a3 : Int) (r4 : Bool) (H : mQ F a1 a2 a3 = some r4) : ACalls Tryz.prog 235 [i64 a1, i64 a2, i64 a3] [] (Ret (B r4) []) := by
 unfold mQ at H
 refine ax Tryz.func235 rfl rfl ?_;show AW _ _ 15 _ _ _;refine af <| aa ?_;show AR _ _ _ _ _ [0] _;refine za rfl <| ag <| af <| aa ?_;show AR _ _ _ _ _ [0, 1, 2, 3, 4, 5, 6, 7, 8] _;refine zm rfl <| zm rfl <| zS rfl (dz rfl rfl) <| zm rfl <| bb (l := [8]) 14 (B ((decide (a2 ≤ a1)) && (decide (a1 ≤ a3)))) (fun K => ?_) ?_
 ·rcases ak (decide (a2 ≤ a1)) with h5 | h5
  ·refine zM h5 rfl <| zM h5 rfl <| zU h5 rfl (dI rfl rfl) <| zS rfl (aG (av := .v _) rfl h5 rfl) ?_;exact K _ 3 _ (aA (cz h5)) rfl rfl
  ·refine zF h5 rfl <| zF h5 rfl <| zF h5 rfl <| zS rfl (aE (av := .v _) rfl h5 rfl) ?_;exact K _ 3 _ (aA (cA h5)) rfl rfl
 refine za rfl <| ag <| aL ?_;obtain rfl := ap H;exact And.intro rfl (Exists.intro _ (Exists.intro _ ⟨aH rfl (.refl _), aI [] rfl, rfl, rfl⟩))
set_option maxRecDepth 100000 in
set_option maxHeartbeats 1000000 in
theorem tP (F : Nat) (a1 : UInt8) (r2 : Bool) (H : kY F a1 = some r2) : ACalls Tryz.prog 146 [u8 a1] [] (Ret (B r2) []) := by
 unfold kY at H
 refine ax Tryz.func146 rfl rfl ?_;show AW _ _ 6 _ _ _;refine af <| aa ?_;show AR _ _ _ _ _ [0] _;refine za rfl <| ag <| af ?_;obtain ⟨x3, e4, H⟩ := bg H;refine aa ?_;show AR _ _ _ _ _ [0, 1, 2, 3] _;refine zm rfl <| aq rfl rfl (aD rfl sk rfl (show ACalls _ _ _ [] (Ret (i64 x3) []) from by subst e4; exact dx ([9, 10, 13, 32] : List UInt8) a1) ?_);refine zS rfl (dz rfl rfl) <| za rfl <| ag <| aL ?_;obtain rfl := ap H;exact And.intro rfl (Exists.intro _ (Exists.intro _ ⟨aH rfl (.refl _), aI [] rfl, rfl, rfl⟩))
set_option maxRecDepth 100000 in
set_option maxHeartbeats 1000000 in
theorem qv (F : Nat) (a1 : List UInt8) (r2 : List UInt8) (H : kg F a1 = some r2) : ACalls Tryz.prog 97 [S a1] [] (Ret (S r2) []) := by
 unfold kg at H
 refine ax Tryz.func97 rfl rfl ?_;show AW _ _ 46 _ _ _;refine af <| aa ?_;show AR _ _ _ _ _ [0] _;refine za rfl <| ag <| af <| aa ?_;show AR _ _ _ _ _ [0] _;refine za rfl <| ag ?_
 refine ez 3 1 9 rfl fun t3 => ?_
 show AW _ _ _ _ _ ⟨(3, slE Enc.str [] (some t3)) :: _, _, _⟩;refine af <| aa ?_;show AR _ _ _ _ _ [0] _;refine za rfl <| ag <| bk (X := (List (List UInt8)) × Nat) (fun (y33, t34) => ⟨[(3, slE Enc.str y33 (some t34))], [], [.tok t34 9]⟩) (fun (y33, t34) => iI y33 = some r2) ?_ ?_
 ·refine af <| aa ?_;show AR _ _ _ _ _ [0] _;refine za rfl <| ag <| aO <| cl (X := Nat × (List (List UInt8)) × Nat × Int × Int) (fun (n9, y4, t5, y6, y7) => ⟨[(0, S a1), (3, slE Enc.str y4 (some t5)), (4, i64 y6), (5, i64 y7)], [], [.tok t5 9]⟩) (fun (n9, y4, t5, y6, y7) => dN F a1 n9 (y4, y6, y7) = some r2) (fun (n9, y4, t5, y6, y7) => n9) (F, [], t3, (-1), 0) H (aP [0] (.cons (.refl _) (.cons (.refl _) (.cons (.refl _) (.cons (.refl _) (.nil _))))) rfl) ?_;rintro ⟨n9, y4, t5, y6, y7⟩ H;obtain ⟨n9, rfl, H⟩ := cO H;replace H : fG F a1 (dN F a1 n9) y4 y6 y7 = some r2 := H
  unfold fG at H
  refine af <| af <| aa ?_;show AR _ _ _ _ _ [0, 1, 2, 3] _;refine zm rfl <| zm rfl <| zS rfl (aU ab rfl) <| zS rfl (dI rfl rfl) <| ag <| az rfl (fun c10 => ?_) (fun c10 => ?_)
  ·replace H := aZ c10 H;refine aC <| bk (X := (List (List UInt8)) × Nat × Int) (fun (y28, t29, y30) => ⟨[(0, S a1), (3, slE Enc.str y28 (some t29)), (4, i64 y30), (5, i64 y7)], [], [.tok t29 9]⟩) (fun (y28, t29, y30) => fF y7 (dN F a1 n9) y28 y30 = some r2) ?_ ?_
   ·refine aO <| af ?_;obtain ⟨g12, H⟩ := dq H;obtain ⟨x13, e14, H⟩ := bg H;obtain ⟨x15, e16, H⟩ := ft H;refine aa ?_;show AR _ _ _ _ _ [0, 1, 2, 3, 4, 5, 6, 7, 8, 9, 10] _;refine zm rfl <| zm rfl <| zS rfl (aU ab rfl) <| zS rfl (cJ rfl rfl) <| zm rfl <| bb (l := [10]) 22 (B ((decide (y7 = (a1.length : Int))) || x15)) (fun K => ?_) ?_
    ·rcases ak (decide (y7 = (a1.length : Int))) with h11 | h11
     ·refine zF h11 rfl <| zF h11 rfl <| zF h11 rfl <| zF h11 rfl <| zS rfl (aG (av := .v _) rfl h11 rfl) ?_;exact K _ 4 _ (aA (fT h11)) rfl rfl
     ·refine zM h11 rfl <| zM h11 rfl <| zU h11 rfl (bj ab rfl rfl (g12 (nf h11)) e14) <| zT h11 rfl (aD rfl wt rfl (tP F x13 x15 (e16 (nf h11))) ?_);refine zS rfl (aE (av := .v _) rfl h11 rfl) ?_;exact K _ 4 _ (aA (fU h11)) rfl rfl
    refine za rfl <| ag <| aO <| af <| aa ?_;show AR _ _ _ _ _ [0, 1, 2, 3, 4, 5, 6] _;refine zm rfl <| zS rfl (cx rfl) <| zm rfl <| bb (l := [6]) 29 (B ((!((decide (y7 = (a1.length : Int))) || x15)) && (decide (y6 < 0)))) (fun K => ?_) ?_
    ·rcases ak (!((decide (y7 = (a1.length : Int))) || x15)) with h17 | h17
     ·refine zM h17 rfl <| zU h17 rfl (bC rfl rfl) <| zS rfl (aG (av := .v _) rfl h17 rfl) ?_;exact K _ 2 _ (aA (cz h17)) rfl rfl
     ·refine zF h17 rfl <| zF h17 rfl <| zS rfl (aE (av := .v _) rfl h17 rfl) ?_;exact K _ 2 _ (aA (cA h17)) rfl rfl
    refine za rfl <| ag <| az rfl (fun c18 => ?_) (fun c18 => ?_)
    ·replace H := aZ c18 H;refine aa ?_;show AR _ _ _ _ _ [0, 1] _;refine zm rfl <| za rfl <| ag ?_;exact Exists.intro (y4, t5, y7) ⟨H, aP [0] (.cons (.refl _) (.cons (.refl _) (.cons (.refl _) (.cons (.refl _) (.nil _))))) rfl⟩
    ·replace H := ba c18 H;refine af <| aa ?_;show AR _ _ _ _ _ [0, 1, 2, 3, 4, 5] _;refine zm rfl <| zm rfl <| bb (l := [5]) 36 (B (((decide (y7 = (a1.length : Int))) || x15) && (decide (0 ≤ y6)))) (fun K => ?_) ?_
     ·rcases ak ((decide (y7 = (a1.length : Int))) || x15) with h19 | h19
      ·refine zM h19 rfl <| zU h19 rfl (dz rfl rfl) <| zS rfl (aG (av := .v _) rfl h19 rfl) ?_;exact K _ 2 _ (aA (cz h19)) rfl rfl
      ·refine zF h19 rfl <| zF h19 rfl <| zS rfl (aE (av := .v _) rfl h19 rfl) ?_;exact K _ 2 _ (aA (cA h19)) rfl rfl
     refine za rfl <| ag <| az rfl (fun c20 => ?_) (fun c20 => ?_)
     ·replace H := aZ c20 H;obtain ⟨g21, H⟩ := ay H;obtain ⟨x22, e23, H⟩ := bg H;obtain ⟨g25, H⟩ := ay H;obtain ⟨x26, e27, H⟩ := bg H;refine aa ?_;show AR _ _ _ _ _ [0, 1, 2, 3, 4, 5, 6, 7, 8] _;refine zS rfl (aj (av := slE _ _ _) rfl) <| zm rfl <| zm rfl <| zm rfl <| zS rfl (kA ab rfl rfl rfl g21 e23) <| zR rfl (bQ (E := Enc.str) (bytes := 16) (xs := [.tmp 41]) (l := ([x22] : List (List UInt8))) ao (by kernel_rfl) rfl rfl (by decide) rfl rfl) <| zX rfl (cE (E := Enc.str) (bytes := 16) 0 ao ao rfl (by kernel_rfl) rfl rfl rfl rfl g25 e27) ?_;rintro _ _ ⟨t24, rfl, rfl⟩;refine zS rfl (aB (av := slE _ _ _) rfl) <| za rfl <| ag ?_;exact Exists.intro (x26, t24, (-1)) ⟨H, aP [0] (.cons (.refl _) (.cons (.refl _) (.cons (.refl _) (.cons (.refl _) (.nil _))))) rfl⟩
     ·replace H := ba c20 H;refine aC ?_;exact Exists.intro (y4, t5, y6) ⟨H, aP [0] (.cons (.refl _) (.cons (.refl _) (.cons (.refl _) (.cons (.refl _) (.nil _))))) rfl⟩
   rintro ⟨y28, t29, y30⟩ H;replace H : fF y7 (dN F a1 n9) y28 y30 = some r2 := H
   unfold fF at H
   obtain ⟨g32, H⟩ := ay H;refine aa ?_;show AR _ _ _ _ _ [0, 1, 2] _;refine zm rfl <| zS rfl (bu rfl rfl g32) <| za rfl <| ag ?_;exact Exists.intro (n9, y28, t29, y30, y7 + 1) ⟨H, Nat.lt_succ_self _, aP [0] (.cons (.refl _) (.cons (.refl _) (.cons (.refl _) (.cons (.refl _) (.nil _))))) rfl⟩
  ·replace H := ba c10 H;refine bZ ?_;exact Exists.intro (y4, t5) ⟨H, aP [0] (.cons (.refl _) (.nil _)) rfl⟩
 rintro ⟨y33, t34⟩ H;replace H : iI y33 = some r2 := H
 unfold iI at H
 refine af ?_;obtain ⟨g36, H⟩ := ay H;obtain ⟨x37, e38, H⟩ := bg H;refine aa ?_;show AR _ _ _ _ _ [0, 1, 2] _;refine zS rfl (aj (av := slE _ _ _) rfl) <| aq rfl rfl (aD rfl xx rfl (show ACalls _ _ _ [] (Ret (S x37) []) from by subst e38; exact li y33 ([32] : List UInt8) (some t34) (lb g36).1 (lb g36).2) ?_);refine za rfl <| ag <| aL ?_;obtain rfl := ap H;exact And.intro rfl (Exists.intro _ (Exists.intro _ ⟨aH rfl (.refl _), aI [] rfl, rfl, rfl⟩))
set_option maxRecDepth 100000 in
set_option maxHeartbeats 1000000 in
theorem mb (F : Nat) (a1 : List UInt8) (a2 : Int) (a3 : List UInt8) (r4 : Bool) (H : gx F a1 a2 a3 = some r4) : ACalls Tryz.prog 149 [S a1, i64 a2, S a3] [] (Ret (B r4) []) := by
 unfold gx at H
 refine ax Tryz.func149 rfl rfl ?_;show AW _ _ 19 _ _ _;refine af <| aa ?_;show AR _ _ _ _ _ [0] _;refine za rfl <| ag <| af ?_;obtain ⟨g6, H⟩ := dq H;obtain ⟨x7, e8, H⟩ := bg H;obtain ⟨x9, e10, H⟩ := bg H;refine aa ?_;show AR _ _ _ _ _ [0, 1, 2, 3, 4, 5, 6, 7, 8, 9, 10, 11, 12] _;refine zm rfl <| zm rfl <| zS rfl (aU ab rfl) <| zS rfl (bC rfl rfl) <| zm rfl <| bb (l := [12]) 18 (B ((decide (a2 < (a1.length : Int))) && (decide (0 ≤ x9)))) (fun K => ?_) ?_
 ·rcases ak (decide (a2 < (a1.length : Int))) with h5 | h5
  ·refine zM h5 rfl <| zM h5 rfl <| zM h5 rfl <| zU h5 rfl (bj ab rfl rfl (g6 h5) e8) <| zT h5 rfl (aD rfl sk rfl (show ACalls _ _ _ [] (Ret (i64 x9) []) from by subst e10; exact dx a3 x7) ?_);refine zU h5 rfl (dz rfl rfl) <| zS rfl (aG (av := .v _) rfl h5 rfl) ?_;exact K _ 6 _ (aA (cz h5)) rfl rfl
  ·refine zF h5 rfl <| zF h5 rfl <| zF h5 rfl <| zF h5 rfl <| zF h5 rfl <| zF h5 rfl <| zS rfl (aE (av := .v _) rfl h5 rfl) ?_;exact K _ 6 _ (aA (cA h5)) rfl rfl
 refine za rfl <| ag <| aL ?_;obtain rfl := ap H;exact And.intro rfl (Exists.intro _ (Exists.intro _ ⟨aH rfl (.refl _), aI [] rfl, rfl, rfl⟩))
set_option maxRecDepth 100000 in
set_option maxHeartbeats 1000000 in
theorem mX (F : Nat) (a1 : List UInt8) (r2 : List UInt8) (H : gm F a1 = some r2) : ACalls Tryz.prog 197 [S a1] [] (Ret (S r2) []) := by
 unfold gm at H
 refine ax Tryz.func197 rfl rfl ?_;show AW _ _ 30 _ _ _;refine af <| aa ?_;show AR _ _ _ _ _ [0] _;refine za rfl <| ag <| af ?_;obtain ⟨g3, H⟩ := ay H;refine aa ?_;show AR _ _ _ _ _ [0, 1, 2] _;refine zm rfl <| zX rfl (qm ab ac aY rfl g3) ?_;rintro _ _ ⟨o4, n5, rfl, rfl⟩;refine zS rfl (aB (av := .vw _ _ _ _) rfl) <| ag <| bk (X := (List UInt8)) (fun y24 => ⟨[(3, .vw o4 0 a1.length (a1.length + n5))], [], [.obj o4 (Enc.byte.fl y24 ++ List.replicate n5 .any)]⟩) (fun y24 => fy a1 y24 = some r2) ?_ ?_
 ·refine af <| aa ?_;show AR _ _ _ _ _ [0, 1, 2] _;refine zS rfl (aj (av := .vw _ _ _ _) rfl) <| zS rfl (vE ac rfl) <| zm rfl <| ag <| aO <| cl (X := Nat × Int × (List UInt8)) (fun (n9, y6, y7) => ⟨[(3, .vw o4 0 a1.length (a1.length + n5)), (8, .vw o4 0 a1.length (a1.length + n5)), (9, i64 (a1.length : Int)), (10, i64 y6)], [], [.obj o4 (Enc.byte.fl y7 ++ List.replicate n5 .any)]⟩) (fun (n9, y6, y7) => dY a1 n9 (y6, y7) = some r2) (fun (n9, y6, y7) => n9) (F, 0, a1) H (aP [0] (.cons (.refl _) (.cons (.refl _) (.cons (.refl _) (.cons (.refl _) (.nil _))))) rfl) ?_;rintro ⟨n9, y6, y7⟩ H;obtain ⟨n9, rfl, H⟩ := cO H;replace H : fA a1 (dY a1 n9) y6 y7 = some r2 := H
  unfold fA at H
  refine af <| aa ?_;show AR _ _ _ _ _ [0] _;refine zS rfl (bC rfl rfl) <| ag <| af <| az rfl (fun c10 => ?_) (fun c10 => ?_)
  ·replace H := aZ c10 H;refine aC <| bk (X := (List UInt8)) (fun y21 => ⟨[(3, .vw o4 0 a1.length (a1.length + n5)), (8, .vw o4 0 a1.length (a1.length + n5)), (9, i64 (a1.length : Int)), (10, i64 y6)], [], [.obj o4 (Enc.byte.fl y21 ++ List.replicate n5 .any)]⟩) (fun y21 => eP y6 (dY a1 n9) y21 = some r2) ?_ ?_
   ·refine aO <| af ?_;obtain ⟨g11, H⟩ := ay H;obtain ⟨g12, H⟩ := ay H;obtain ⟨x13, e14, H⟩ := bg H;refine aa ?_;show AR _ _ _ _ _ [0, 1, 2, 3, 4] _;refine zm rfl <| zS rfl (iZ ac (by kernel_rfl) rfl rfl g11) <| zR rfl (vK (k := 0) aY rfl rfl rfl g12 e14) <| za rfl <| za rfl <| ag <| af <| aa ?_;show AR _ _ _ _ _ [0, 1, 2, 3, 4, 5] _;refine zm rfl <| zS rfl (dz rfl rfl) <| zm rfl <| bb (l := []) 20 (B ((decide (65 ≤ (x13.toNat : Int))) && (decide ((x13.toNat : Int) ≤ 90)))) (fun K => ?_) ?_
    ·rcases ak (decide (65 ≤ (x13.toNat : Int))) with h15 | h15
     ·refine zM h15 rfl <| zU h15 rfl (dI rfl rfl) <| zS rfl (aG (av := .v _) rfl h15 rfl) ?_;exact K _ 2 _ (aA (cz h15)) rfl rfl
     ·refine zF h15 rfl <| zF h15 rfl <| zS rfl (aE (av := .v _) rfl h15 rfl) ?_;exact K _ 2 _ (aA (cA h15)) rfl rfl
    refine ag <| az rfl (fun c16 => ?_) (fun c16 => ?_)
    ·replace H := aZ c16 H;obtain ⟨g17, H⟩ := ay H;obtain ⟨g18, H⟩ := ay H;obtain ⟨x19, e20, H⟩ := bg H;refine aa ?_;show AR _ _ _ _ _ [0, 1, 2, 3, 4, 5, 6] _;refine zS rfl (aj (av := .vw _ _ _ _) rfl) <| zm rfl <| zm rfl <| zS rfl (g_add8 (a := x13) (b := 97) rfl rfl) <| zS rfl (tA (a := x13 + 97) (b := 65) rfl rfl) <| zS rfl (iZ ac (by kernel_rfl) rfl rfl g17) <| s0 rfl rfl (pE (k := 0) (c := ((x13 + 97) - 65)) (by kernel_rfl) rfl rfl rfl g18 e20) <| ag ?_;exact Exists.intro x19 ⟨H, aP [0] (.cons (.refl _) (.cons (.refl _) (.cons (.refl _) (.cons (.refl _) (.nil _))))) rfl⟩
    ·replace H := ba c16 H;refine aC ?_;exact Exists.intro y7 ⟨H, aP [0] (.cons (.refl _) (.cons (.refl _) (.cons (.refl _) (.cons (.refl _) (.nil _))))) rfl⟩
   rintro y21 H;replace H : eP y6 (dY a1 n9) y21 = some r2 := H
   unfold eP at H
   obtain ⟨g23, H⟩ := ay H;refine aa ?_;show AR _ _ _ _ _ [0, 1] _;refine zS rfl (bu rfl rfl g23) <| zm rfl <| ag ?_;exact Exists.intro (n9, y6 + 1, y21) ⟨H, Nat.lt_succ_self _, aP [0] (.cons (.refl _) (.cons (.refl _) (.cons (.refl _) (.cons (.refl _) (.nil _))))) rfl⟩
  ·replace H := ba c10 H;refine bZ ?_;exact Exists.intro y7 ⟨H, aP [0] (.cons (.refl _) (.nil _)) rfl⟩
 rintro y24 H;replace H : fy a1 y24 = some r2 := H
 unfold fy at H
 refine af ?_;obtain ⟨g26, H⟩ := ay H;refine aa ?_;show AR _ _ _ _ _ [0, 1, 2] _;refine zS rfl (aj (av := .vw _ _ _ _) rfl) <| zR rfl (kP (k := 0) ac aY ab rfl g26 rfl) <| za rfl <| ag <| aL ?_;obtain rfl := ap H;exact And.intro rfl (Exists.intro _ (Exists.intro _ ⟨aH rfl (.refl _), aI [] rfl, rfl, rfl⟩))
set_option maxRecDepth 100000 in
set_option maxHeartbeats 1000000 in
theorem nX (F : Nat) (a1 : List UInt8) (a2 : Int) (r3 : List (List UInt8)) (H : ib F a1 a2 = some r3) : ACalls Tryz.prog 46 [S a1, i64 a2] [] (Ret (slE Enc.str r3 none) []) := by
 unfold ib at H
 refine ax Tryz.func46 rfl rfl ?_;show AW _ _ 57 _ _ _;refine af <| aa ?_;show AR _ _ _ _ _ [0] _;refine za rfl <| ag <| af <| af <| aa ?_;show AR _ _ _ _ _ [0, 1] _;refine zm rfl <| zS rfl (bC rfl rfl) <| ag <| az rfl (fun c4 => ?_) (fun c4 => ?_)
 ·replace H := aZ c4 H;refine af <| aa ?_;show AR _ _ _ _ _ [0] _;refine za rfl <| ag <| aL ?_;obtain rfl := ap H;exact And.intro rfl (Exists.intro _ (Exists.intro _ ⟨aH rfl (.nil _), aI [] rfl, rfl, rfl⟩))
 ·replace H := ba c4 H;refine aC <| af <| aa ?_;show AR _ _ _ _ _ [0] _;refine za rfl <| ag ?_
  refine ez 5 1 9 rfl fun t5 => ?_
  show AW _ _ _ _ _ ⟨(5, slE Enc.str [] (some t5)) :: _, _, _⟩;refine bk (X := (List (List UInt8)) × Nat) (fun (y71, t72) => ⟨[(5, slE Enc.str y71 (some t72))], [], [.tok t72 9]⟩) (fun (y71, t72) => gb y71 = some r3) ?_ ?_
  ·refine af ?_;obtain ⟨g6, H⟩ := ay H;obtain ⟨g7, H⟩ := ay H;obtain ⟨x8, e9, H⟩ := bg H;refine aa ?_;show AR _ _ _ _ _ [0, 1, 2, 3] _;refine zm rfl <| aq rfl rfl (aD rfl sj rfl (show ACalls _ _ _ [] (Ret (slE Enc.str x8 none) []) from by subst e9; exact pb a1 ([10] : List UInt8) (gW g6) (of_decide_eq_true g7)) ?_);refine zS rfl (aQ ao rfl) <| zm rfl <| ag <| aO <| cl (X := Nat × (List (List UInt8)) × Nat × Int) (fun (n14, y10, t11, y12) => ⟨[(1, i64 a2), (5, slE Enc.str y10 (some t11)), (15, slE Enc.str x8 none), (16, i64 (x8.length : Int)), (17, i64 y12)], [], [.tok t11 9]⟩) (fun (n14, y10, t11, y12) => ce F a2 x8 n14 (y10, y12) = some r3) (fun (n14, y10, t11, y12) => n14) (F, [], t5, 0) H (aP [0] (.cons (.refl _) (.cons (.refl _) (.cons (.refl _) (.cons (.refl _) (.cons (.refl _) (.nil _)))))) rfl) ?_;rintro ⟨n14, y10, t11, y12⟩ H;obtain ⟨n14, rfl, H⟩ := cO H;replace H : gc F a2 x8 (ce F a2 x8 n14) y10 y12 = some r3 := H
   unfold gc at H
   refine af <| aa ?_;show AR _ _ _ _ _ [0] _;refine zS rfl (bC rfl rfl) <| ag <| af <| az rfl (fun c15 => ?_) (fun c15 => ?_)
   ·replace H := aZ c15 H;refine aC <| bk (X := (List (List UInt8)) × Nat) (fun (y67, t68) => ⟨[(1, i64 a2), (5, slE Enc.str y67 (some t68)), (15, slE Enc.str x8 none), (16, i64 (x8.length : Int)), (17, i64 y12)], [], [.tok t68 9]⟩) (fun (y67, t68) => fq y12 (ce F a2 x8 n14) y67 = some r3) ?_ ?_
    ·refine aO <| af ?_;obtain ⟨g16, H⟩ := ay H;obtain ⟨x17, e18, H⟩ := bg H;refine aa ?_;show AR _ _ _ _ _ [0, 1, 2] _;refine zS rfl (cn (E := Enc.str) ao (by kernel_rfl) rfl rfl g16 e18) <| zS rfl (aJ ab rfl rfl) <| za rfl <| ag <| af <| aa ?_;show AR _ _ _ _ _ [0, 1] _;refine za rfl <| za rfl <| ag <| bk (X := (List (List UInt8)) × Nat × (List UInt8)) (fun (y59, t60, y61) => ⟨[(1, i64 a2), (5, slE Enc.str y59 (some t60)), (8, S y61), (15, slE Enc.str x8 none), (16, i64 (x8.length : Int)), (17, i64 y12)], [], [.tok t60 9]⟩) (fun (y59, t60, y61) => ga y12 (ce F a2 x8 n14) y59 y61 = some r3) ?_ ?_
     ·refine af ?_;obtain ⟨x19, e20, H⟩ := bK H;obtain ⟨g21, H⟩ := ay H;obtain ⟨g22, H⟩ := ay H;obtain ⟨x23, e24, H⟩ := bg H;refine aa ?_;show AR _ _ _ _ _ [0, 1, 2, 3, 4] _;refine zm rfl <| aq rfl rfl (aD rfl xw rfl (qv F x17 x19 e20) ?_);refine aq rfl rfl (aD rfl sj rfl (show ACalls _ _ _ [] (Ret (slE Enc.str x23 none) []) from by subst e24; exact pb x19 ([32] : List UInt8) (gW g21) (of_decide_eq_true g22)) ?_);refine zS rfl (aQ ao rfl) <| zm rfl <| ag <| aO <| cl (X := Nat × (List (List UInt8)) × Nat × (List UInt8) × Bool × Int) (fun (n34, y28, t29, y30, y31, y32) => ⟨[(1, i64 a2), (5, slE Enc.str y28 (some t29)), (8, S y30), (9, B y31), (15, slE Enc.str x8 none), (16, i64 (x8.length : Int)), (17, i64 y12), (23, slE Enc.str x23 none), (24, i64 (x23.length : Int)), (25, i64 y32)], [], [.tok t29 9]⟩) (fun (n34, y28, t29, y30, y31, y32) => dM a2 y12 x23 (ce F a2 x8 n14) n34 (y28, y30, y31, y32) = some r3) (fun (n34, y28, t29, y30, y31, y32) => n34) (F, y10, t11, ([] : List UInt8), true, 0) H (aP [0] (.cons (.refl _) (.cons (.refl _) (.cons (.refl _) (.cons (.refl _) (.cons (.refl _) (.cons (.refl _) (.cons (.refl _) (.cons (.refl _) (.cons (.refl _) (.cons (.refl _) (.nil _))))))))))) rfl) ?_;rintro ⟨n34, y28, t29, y30, y31, y32⟩ H;obtain ⟨n34, rfl, H⟩ := cO H;replace H : eF a2 y12 x23 (ce F a2 x8 n14) (dM a2 y12 x23 (ce F a2 x8 n14) n34) y28 y30 y31 y32 = some r3 := H
      unfold eF at H
      refine af <| aa ?_;show AR _ _ _ _ _ [0] _;refine zS rfl (bC rfl rfl) <| ag <| af <| az rfl (fun c35 => ?_) (fun c35 => ?_)
      ·replace H := aZ c35 H;refine aC <| bk (X := (List (List UInt8)) × Nat × (List UInt8) × Bool) (fun (y53, t54, y55, y56) => ⟨[(1, i64 a2), (5, slE Enc.str y53 (some t54)), (8, S y55), (9, B y56), (15, slE Enc.str x8 none), (16, i64 (x8.length : Int)), (17, i64 y12), (23, slE Enc.str x23 none), (24, i64 (x23.length : Int)), (25, i64 y32)], [], [.tok t54 9]⟩) (fun (y53, t54, y55, y56) => dL y32 (dM a2 y12 x23 (ce F a2 x8 n14) n34) y53 y55 y56 = some r3) ?_ ?_
       ·refine aO <| af ?_;obtain ⟨g36, H⟩ := ay H;obtain ⟨x37, e38, H⟩ := bg H;refine aa ?_;show AR _ _ _ _ _ [0, 1, 2] _;refine zS rfl (cn (E := Enc.str) ao (by kernel_rfl) rfl rfl g36 e38) <| zS rfl (aJ ab rfl rfl) <| za rfl <| ag <| aO <| af <| aa ?_;show AR _ _ _ _ _ [0, 1] _;refine zm rfl <| za rfl <| ag <| az rfl (fun c39 => ?_) (fun c39 => ?_)
        ·replace H := aZ c39 H;refine aa ?_;show AR _ _ _ _ _ [0, 1, 2] _;refine zm rfl <| za rfl <| za rfl <| ag ?_;exact Exists.intro (y28, t29, x37, false) ⟨H, aP [0] (.cons (.refl _) (.cons (.refl _) (.cons (.refl _) (.cons (.refl _) (.cons (.refl _) (.cons (.refl _) (.cons (.refl _) (.cons (.refl _) (.cons (.refl _) (.cons (.refl _) (.nil _))))))))))) rfl⟩
        ·replace H := ba c39 H;refine af ?_;obtain ⟨g40, H⟩ := ay H;obtain ⟨g41, H⟩ := ay H;refine aa ?_;show AR _ _ _ _ _ [0, 1, 2, 3, 4, 5, 6, 7, 8] _;refine zm rfl <| zS rfl (aU ab rfl) <| zS rfl (bu rfl rfl g40) <| zm rfl <| zS rfl (aU ab rfl) <| zS rfl (bu rfl rfl g41) <| zm rfl <| zS rfl (dI rfl rfl) <| za rfl <| ag <| az rfl (fun c42 => ?_) (fun c42 => ?_)
         ·replace H := aZ c42 H;obtain ⟨g43, H⟩ := ay H;obtain ⟨x44, e45, H⟩ := bg H;obtain ⟨g46, H⟩ := ay H;obtain ⟨x47, e48, H⟩ := bg H;refine aa ?_;show AR _ _ _ _ _ [0, 1, 2, 3, 4] _;refine zm rfl <| zm rfl <| zS rfl (cg rfl rfl g43 e45) <| zS rfl (cg rfl rfl g46 e48) <| za rfl <| ag ?_;exact Exists.intro (y28, t29, x47, y31) ⟨H, aP [0] (.cons (.refl _) (.cons (.refl _) (.cons (.refl _) (.cons (.refl _) (.cons (.refl _) (.cons (.refl _) (.cons (.refl _) (.cons (.refl _) (.cons (.refl _) (.cons (.refl _) (.nil _))))))))))) rfl⟩
         ·replace H := ba c42 H;obtain ⟨g50, H⟩ := ay H;obtain ⟨x51, e52, H⟩ := bg H;refine aa ?_;show AR _ _ _ _ _ [0, 1, 2, 3, 4, 5, 6] _;refine zS rfl (aj (av := slE _ _ _) rfl) <| zm rfl <| zR rfl (bQ (E := Enc.str) (bytes := 16) (xs := [.tmp 30]) (l := ([y30] : List (List UInt8))) ao (by kernel_rfl) rfl rfl (by decide) rfl rfl) <| zX rfl (cE (E := Enc.str) (bytes := 16) 0 ao ao rfl (by kernel_rfl) rfl rfl rfl rfl g50 e52) ?_;rintro _ _ ⟨t49, rfl, rfl⟩;refine zm rfl <| zS rfl (aB (av := slE _ _ _) rfl) <| za rfl <| ag ?_;exact Exists.intro (x51, t49, x37, y31) ⟨H, aP [0] (.cons (.refl _) (.cons (.refl _) (.cons (.refl _) (.cons (.refl _) (.cons (.refl _) (.cons (.refl _) (.cons (.refl _) (.cons (.refl _) (.cons (.refl _) (.cons (.refl _) (.nil _))))))))))) rfl⟩
       rintro ⟨y53, t54, y55, y56⟩ H;replace H : dL y32 (dM a2 y12 x23 (ce F a2 x8 n14) n34) y53 y55 y56 = some r3 := H
       unfold dL at H
       obtain ⟨g58, H⟩ := ay H;refine aa ?_;show AR _ _ _ _ _ [0, 1] _;refine zS rfl (bu rfl rfl g58) <| zm rfl <| ag ?_;exact Exists.intro (n34, y53, t54, y55, y56, y32 + 1) ⟨H, Nat.lt_succ_self _, aP [0] (.cons (.refl _) (.cons (.refl _) (.cons (.refl _) (.cons (.refl _) (.cons (.refl _) (.cons (.refl _) (.cons (.refl _) (.cons (.refl _) (.cons (.refl _) (.cons (.refl _) (.nil _))))))))))) rfl⟩
      ·replace H := ba c35 H;refine bZ ?_;exact Exists.intro (y28, t29, y30) ⟨H, aP [0] (.cons (.refl _) (.cons (.refl _) (.cons (.refl _) (.cons (.refl _) (.cons (.refl _) (.cons (.refl _) (.nil _))))))) rfl⟩
     rintro ⟨y59, t60, y61⟩ H;replace H : ga y12 (ce F a2 x8 n14) y59 y61 = some r3 := H
     unfold ga at H
     obtain ⟨g64, H⟩ := ay H;obtain ⟨x65, e66, H⟩ := bg H;refine aa ?_;show AR _ _ _ _ _ [0, 1, 2, 3, 4] _;refine zS rfl (aj (av := slE _ _ _) rfl) <| zm rfl <| zR rfl (bQ (E := Enc.str) (bytes := 16) (xs := [.tmp 52]) (l := ([y61] : List (List UInt8))) ao (by kernel_rfl) rfl rfl (by decide) rfl rfl) <| zX rfl (cE (E := Enc.str) (bytes := 16) 0 ao ao rfl (by kernel_rfl) rfl rfl rfl rfl g64 e66) ?_;rintro _ _ ⟨t63, rfl, rfl⟩;refine zS rfl (aB (av := slE _ _ _) rfl) <| ag ?_;exact Exists.intro (x65, t63) ⟨H, aP [0] (.cons (.refl _) (.cons (.refl _) (.cons (.refl _) (.cons (.refl _) (.cons (.refl _) (.nil _)))))) rfl⟩
    rintro ⟨y67, t68⟩ H;replace H : fq y12 (ce F a2 x8 n14) y67 = some r3 := H
    unfold fq at H
    obtain ⟨g70, H⟩ := ay H;refine aa ?_;show AR _ _ _ _ _ [0, 1] _;refine zS rfl (bu rfl rfl g70) <| zm rfl <| ag ?_;exact Exists.intro (n14, y67, t68, y12 + 1) ⟨H, Nat.lt_succ_self _, aP [0] (.cons (.refl _) (.cons (.refl _) (.cons (.refl _) (.cons (.refl _) (.cons (.refl _) (.nil _)))))) rfl⟩
   ·replace H := ba c15 H;refine bZ ?_;exact Exists.intro (y10, t11) ⟨H, aP [0] (.cons (.refl _) (.nil _)) rfl⟩
  rintro ⟨y71, t72⟩ H;replace H : gb y71 = some r3 := H
  unfold gb at H
  refine af <| aa ?_;show AR _ _ _ _ _ [0, 1] _;refine zS rfl (aj (av := slE _ _ _) rfl) <| zS rfl (aB (av := slE _ _ _) rfl) <| ag <| aL ?_;obtain rfl := ap H;exact And.intro rfl (Exists.intro _ (Exists.intro _ ⟨aH rfl (.tok _ _ _), aI [] rfl, rfl, rfl⟩))
end Go.Proofs.YtjegcifofddgbaaGreatDoor
namespace Go.Pv
def eW (F : Nat) (a1 : UInt8) : Option UInt8 :=
some (a1 ||| 32)
def eZ (y84 : Int) : Option Bool :=
some (!decide (y84 = 95))
def dt (y50 : Int) (rec51 : (Int × Int) → Option Bool) (y81 : Int) : Option Bool :=
grd (okI (y50 + 1)) <|
rec51 (y81, y50 + 1)
def gi (F : Nat) (y15 : List UInt8) (y47 : Bool) (rec51 : (Int × Int) → Option Bool) (y49 : Int) (y50 : Int) : Option Bool :=
bif decide (y50 < (y15.length : Int)) then
  grd (cD y50 y15.length) <|
  lt (at_ y15 y50) fun x55 =>
  fV (decide (48 ≤ (x55.toNat : Int))) (cD y50 y15.length) <|
  lt (at_ y15 y50) fun x59 =>
  fV ((!((decide (48 ≤ (x55.toNat : Int))) && (decide ((x59.toNat : Int) ≤ 57)))) && y47) (cD y50 y15.length) <|
  lt (at_ y15 y50) fun x64 =>
  kN ((!((decide (48 ≤ (x55.toNat : Int))) && (decide ((x59.toNat : Int) ≤ 57)))) && y47) (eW F x64) fun x66 =>
  fV ((!((decide (48 ≤ (x55.toNat : Int))) && (decide ((x59.toNat : Int) ≤ 57)))) && (y47 && (decide (97 ≤ (x66.toNat : Int))))) (cD y50 y15.length) <|
  lt (at_ y15 y50) fun x70 =>
  kN ((!((decide (48 ≤ (x55.toNat : Int))) && (decide ((x59.toNat : Int) ≤ 57)))) && (y47 && (decide (97 ≤ (x66.toNat : Int))))) (eW F x70) fun x72 =>
  bif ((decide (48 ≤ (x55.toNat : Int))) && (decide ((x59.toNat : Int) ≤ 57))) || ((y47 && (decide (97 ≤ (x66.toNat : Int)))) && (decide ((x72.toNat : Int) ≤ 102))) then
    dt y50 rec51 48
  else
    grd (cD y50 y15.length) <|
    lt (at_ y15 y50) fun x76 =>
    bif decide (x76 = 95) then
      bif !decide (y49 = 48) then
        some false
      else
        dt y50 rec51 95
    else
      bif decide (y49 = 95) then
        some false
      else
        dt y50 rec51 33
else
  eZ y49
def dT (F : Nat) (y15 : List UInt8) (y47 : Bool) (n : Nat) : (Int × Int) → Option Bool :=
  loop (fun rec x => gi F y15 y47 rec x.1 x.2) n
def dS (F : Nat) (y15 : List UInt8) (y45 : Int) (y46 : Int) (y47 : Bool) : Option Bool :=
dT F y15 y47 F (y45, y46)
def dR (F : Nat) (y15 : List UInt8) : Option Bool :=
fV (decide (2 ≤ (y15.length : Int))) (cD 0 y15.length) <|
lt (at_ y15 0) fun x19 =>
fV ((decide (2 ≤ (y15.length : Int))) && (decide (x19 = 48))) (cD 1 y15.length) <|
lt (at_ y15 1) fun x23 =>
kN ((decide (2 ≤ (y15.length : Int))) && (decide (x19 = 48))) (eW F x23) fun x25 =>
fV (((decide (2 ≤ (y15.length : Int))) && (decide (x19 = 48))) && (!(decide (x25 = 98)))) (cD 1 y15.length) <|
lt (at_ y15 1) fun x29 =>
kN (((decide (2 ≤ (y15.length : Int))) && (decide (x19 = 48))) && (!(decide (x25 = 98)))) (eW F x29) fun x31 =>
fV (((decide (2 ≤ (y15.length : Int))) && (decide (x19 = 48))) && (!((decide (x25 = 98)) || (decide (x31 = 111))))) (cD 1 y15.length) <|
lt (at_ y15 1) fun x35 =>
kN (((decide (2 ≤ (y15.length : Int))) && (decide (x19 = 48))) && (!((decide (x25 = 98)) || (decide (x31 = 111))))) (eW F x35) fun x37 =>
bif ((decide (2 ≤ (y15.length : Int))) && (decide (x19 = 48))) && (((decide (x25 = 98)) || (decide (x31 = 111))) || (decide (x37 = 120))) then
  grd (cD 1 y15.length) <|
  lt (at_ y15 1) fun x41 =>
  bnd (eW F x41) fun x43 =>
  dS F y15 48 2 (decide (x43 = 120))
else
  dS F y15 94 0 false
def iW (F : Nat) (a1 : List UInt8) : Option Bool :=
fV (decide (1 ≤ (a1.length : Int))) (cD 0 a1.length) <|
lt (at_ a1 0) fun x5 =>
fV ((decide (1 ≤ (a1.length : Int))) && (!(decide (x5 = 45)))) (cD 0 a1.length) <|
lt (at_ a1 0) fun x9 =>
bif (decide (1 ≤ (a1.length : Int))) && ((decide (x5 = 45)) || (decide (x9 = 43))) then
  grd (gZ 1 a1.length) <|
  lt (cB a1 1) fun x13 =>
  dR F x13
else
  dR F a1
def ek (F : Nat) (a1 : List UInt8) (y53 : Bool) (y54 : Int) : Option (Int × Int) :=
kN y53 (iW F a1) fun x57 =>
bif y53 && (!x57) then
  some (0, 2)
else
  some (y54, 0)
def dA (y24 : Int) (rec25 : (Bool × Int × Int) → Option (Int × Int)) (y49 : Bool) (y50 : Int) : Option (Int × Int) :=
grd (okI (y24 + 1)) <|
rec25 (y49, y50, y24 + 1)
def cU (a2 : Int) (y17 : Int) (y22 : Bool) (y23 : Int) (y24 : Int) (rec25 : (Bool × Int × Int) → Option (Int × Int)) (y43 : UInt8) : Option (Int × Int) :=
bif decide (((Go.Av.toB a2).toNat : Int) ≤ (y43.toNat : Int)) then
  some (0, 2)
else
  bif decide (y17 ≤ y23) then
    some (IntKind.u64.wrap ((IntKind.u64.wrap (1 * 2 ^ min (Int.toNat (IntKind.u64.wrap 64)) IntKind.u64.bits)) - 1), 1)
  else
    bif (decide (IntKind.u64.wrap ((IntKind.u64.wrap (y23 * (IntKind.u64.wrap a2))) + (IntKind.u64.wrap (y43.toNat : Int))) < IntKind.u64.wrap (y23 * (IntKind.u64.wrap a2)))) || (decide (IntKind.u64.wrap ((IntKind.u64.wrap (1 * 2 ^ min (Int.toNat (IntKind.u64.wrap 64)) IntKind.u64.bits)) - 1) < IntKind.u64.wrap ((IntKind.u64.wrap (y23 * (IntKind.u64.wrap a2))) + (IntKind.u64.wrap (y43.toNat : Int))))) then
      some (IntKind.u64.wrap ((IntKind.u64.wrap (1 * 2 ^ min (Int.toNat (IntKind.u64.wrap 64)) IntKind.u64.bits)) - 1), 1)
    else
      dA y24 rec25 y22 (IntKind.u64.wrap ((IntKind.u64.wrap (y23 * (IntKind.u64.wrap a2))) + (IntKind.u64.wrap (y43.toNat : Int))))
def dB (F : Nat) (a1 : List UInt8) (a2 : Int) (y17 : Int) (rec25 : (Bool × Int × Int) → Option (Int × Int)) (y22 : Bool) (y23 : Int) (y24 : Int) : Option (Int × Int) :=
bif decide (y24 < (a1.length : Int)) then
  grd (cD y24 a1.length) <|
  lt (at_ a1 y24) fun x29 =>
  bif (decide (x29 = 95)) && (decide (a2 = 0)) then
    dA y24 rec25 true y23
  else
    bif (decide (48 ≤ (x29.toNat : Int))) && (decide ((x29.toNat : Int) ≤ 57)) then
      cU a2 y17 y22 y23 y24 rec25 (x29 - 48)
    else
      bnd (eW F x29) fun x35 =>
      kN (decide (97 ≤ (x35.toNat : Int))) (eW F x29) fun x38 =>
      bif (decide (97 ≤ (x35.toNat : Int))) && (decide ((x38.toNat : Int) ≤ 122)) then
        bnd (eW F x29) fun x41 =>
        cU a2 y17 y22 y23 y24 rec25 ((x41 - 97) + 10)
      else
        some (0, 2)
else
  ek F a1 y22 y23
def cj (F : Nat) (a1 : List UInt8) (a2 : Int) (y17 : Int) (n : Nat) : (Bool × Int × Int) → Option (Int × Int) :=
  loop (fun rec x => dB F a1 a2 y17 rec x.1 x.2.1 x.2.2) n
def dk (F : Nat) (a1 : List UInt8) (a2 : Int) (y17 : Int) : Option (Int × Int) :=
grd (decide (0 ≤ IntKind.u64.wrap 64)) <|
grd (bt a1.length) <|
cj F a1 a2 y17 F (false, 0, 0)
def ej (F : Nat) (a1 : List UInt8) (a2 : Int) : Option (Int × Int) :=
bif decide (a2 = 10) then
  dk F a1 a2 1844674407370955162
else
  bif decide (a2 = 16) then
    dk F a1 a2 1152921504606846976
  else
    grd (decide (IntKind.u64.wrap a2 ≠ 0)) <|
    dk F a1 a2 (IntKind.u64.wrap ((IntKind.u64.wrap (Int.tdiv 18446744073709551615 (IntKind.u64.wrap a2))) + 1))
def ei (F : Nat) (a1 : List UInt8) (a2 : Int) (a3 : Int) : Option (Int × Int) :=
grd (decide (a3 = 0)) <|
ej F a1 a2
def ew (F : Nat) (a1 : List UInt8) (a2 : Int) (a3 : Int) : Option (Int × Int) :=
bif decide (a1 = ([] : List UInt8)) then
  some (0, 2)
else
  grd ((decide (2 ≤ a2)) && (decide (a2 ≤ 36))) <|
  ei F a1 a2 a3
def eO (y40 : Int) : Option (Int × Int) :=
some (y40, 0)
def fx (y19 : Bool) (x21 : Int) : Option (Int × Int) :=
grd (decide (0 ≤ IntKind.u64.wrap 63)) <|
bif (!y19) && (decide (IntKind.u64.wrap (1 * 2 ^ min (Int.toNat (IntKind.u64.wrap 63)) IntKind.u64.bits) ≤ x21)) then
  grd (okI (IntKind.u64.wrap ((IntKind.u64.wrap (1 * 2 ^ min (Int.toNat (IntKind.u64.wrap 63)) IntKind.u64.bits)) - 1))) <|
  some (IntKind.u64.wrap ((IntKind.u64.wrap (1 * 2 ^ min (Int.toNat (IntKind.u64.wrap 63)) IntKind.u64.bits)) - 1), 1)
else
  bif y19 && (decide (IntKind.u64.wrap (1 * 2 ^ min (Int.toNat (IntKind.u64.wrap 63)) IntKind.u64.bits) < x21)) then
    grd (okI (IntKind.u64.wrap (1 * 2 ^ min (Int.toNat (IntKind.u64.wrap 63)) IntKind.u64.bits))) <|
    grd (okI (0 - (IntKind.u64.wrap (1 * 2 ^ min (Int.toNat (IntKind.u64.wrap 63)) IntKind.u64.bits)))) <|
    some (0 - (IntKind.u64.wrap (1 * 2 ^ min (Int.toNat (IntKind.u64.wrap 63)) IntKind.u64.bits)), 1)
  else
    grd (okI x21) <|
    bif y19 then
      grd (okI (0 - x21)) <|
      eO (0 - x21)
    else
      eO x21
def dX (F : Nat) (a2 : Int) (a3 : Int) (y18 : List UInt8) (y19 : Bool) : Option (Int × Int) :=
hC (ew F y18 a2 a3) fun x21 x22 =>
bif (!decide (x22 = 0)) && (!decide (x22 = 1)) then
  some (0, x22)
else
  grd (decide (a3 = 0)) <|
  fx y19 x21
def iz (F : Nat) (a1 : List UInt8) (a2 : Int) (a3 : Int) : Option (Int × Int) :=
bif decide (a1 = ([] : List UInt8)) then
  some (0, 2)
else
  grd (cD 0 a1.length) <|
  lt (at_ a1 0) fun x8 =>
  bif decide (x8 = 43) then
    grd (gZ 1 a1.length) <|
    lt (cB a1 1) fun x12 =>
    dX F a2 a3 x12 false
  else
    bif decide (x8 = 45) then
      grd (gZ 1 a1.length) <|
      lt (cB a1 1) fun x16 =>
      dX F a2 a3 x16 true
    else
      dX F a2 a3 a1 false
def eM (F : Nat) (a1 : List UInt8) (a2 : Int) (a3 : Int) : Option (Int × Int) :=
hC (iz F a1 a2 a3) fun x6 x7 =>
bif !decide (x7 = 0) then
  grd (okS a1.length) <|
  grd (decide (x7 = 1 ∨ x7 = 2)) <|
  some (x6, 1)
else
  some (x6, 0)
def em (y35 : Int) : Option (Int × Int) :=
some (y35, 0)
def el (y19 : Bool) (x21 : Int) : Option (Int × Int) :=
grd (decide (0 ≤ IntKind.u64.wrap 63)) <|
bif (!y19) && (decide (IntKind.u64.wrap (1 * 2 ^ min (Int.toNat (IntKind.u64.wrap 63)) IntKind.u64.bits) ≤ x21)) then
  some (IntKind.i64.wrap (IntKind.u64.wrap ((IntKind.u64.wrap (1 * 2 ^ min (Int.toNat (IntKind.u64.wrap 63)) IntKind.u64.bits)) - 1)), 1)
else
  bif y19 && (decide (IntKind.u64.wrap (1 * 2 ^ min (Int.toNat (IntKind.u64.wrap 63)) IntKind.u64.bits) < x21)) then
    some (IntKind.i64.wrap (0 - (IntKind.i64.wrap (IntKind.u64.wrap (1 * 2 ^ min (Int.toNat (IntKind.u64.wrap 63)) IntKind.u64.bits)))), 1)
  else
    bif y19 then
      em (IntKind.i64.wrap (0 - (IntKind.i64.wrap x21)))
    else
      em (IntKind.i64.wrap x21)
def dm (F : Nat) (a2 : Int) (a3 : Int) (y18 : List UInt8) (y19 : Bool) : Option (Int × Int) :=
hC (ew F y18 a2 a3) fun x21 x22 =>
bif (!decide (x22 = 0)) && (!decide (x22 = 1)) then
  some (0, x22)
else
  grd (decide (a3 = 0)) <|
  el y19 x21
def gH (F : Nat) (a1 : List UInt8) (a2 : Int) (a3 : Int) : Option (Int × Int) :=
bif decide (a1 = ([] : List UInt8)) then
  some (0, 2)
else
  grd (cD 0 a1.length) <|
  lt (at_ a1 0) fun x8 =>
  bif decide (x8 = 43) then
    grd (gZ 1 a1.length) <|
    lt (cB a1 1) fun x12 =>
    dm F a2 a3 x12 false
  else
    bif decide (x8 = 45) then
      grd (gZ 1 a1.length) <|
      lt (cB a1 1) fun x16 =>
      dm F a2 a3 x16 true
    else
      dm F a2 a3 a1 false
def lB (F : Nat) (a1 : List UInt8) : Option (Int × Int) :=
hC (gH F a1 10 0) fun x44 x45 =>
some (x44, x45)
def jT (y41 : Int) : Option (Int × Int) :=
some (y41, 0)
def lA (a1 : List UInt8) (y34 : Int) : Option (Int × Int) :=
grd (cD 0 a1.length) <|
lt (at_ a1 0) fun x37 =>
bif decide (x37 = 45) then
  grd (okI (0 - y34)) <|
  jT (0 - y34)
else
  jT y34
def ny (a1 : List UInt8) (y18 : List UInt8) (rec24 : (Int × Int) → Option (Int × Int)) (y22 : Int) (y23 : Int) : Option (Int × Int) :=
bif decide (y23 < (y18.length : Int)) then
  grd (cD y23 y18.length) <|
  lt (at_ y18 y23) fun x28 =>
  bif decide (9 < ((x28 - 48).toNat : Int)) then
    some (0, 2)
  else
    grd (okI (y22 * 10)) <|
    grd (okI ((y22 * 10) + ((x28 - 48).toNat : Int))) <|
    grd (okI (y23 + 1)) <|
    rec24 ((y22 * 10) + ((x28 - 48).toNat : Int), y23 + 1)
else
  lA a1 y22
def nx (a1 : List UInt8) (y18 : List UInt8) (n : Nat) : (Int × Int) → Option (Int × Int) :=
  loop (fun rec x => ny a1 y18 rec x.1 x.2) n
def jS (F : Nat) (a1 : List UInt8) (y18 : List UInt8) : Option (Int × Int) :=
grd (bt y18.length) <|
nx a1 y18 F (0, 0)
def tf (F : Nat) (a1 : List UInt8) : Option (Int × Int) :=
bif (decide (0 < (a1.length : Int))) && (decide ((a1.length : Int) < 19)) then
  grd (cD 0 a1.length) <|
  lt (at_ a1 0) fun x7 =>
  fV (!(decide (x7 = 45))) (cD 0 a1.length) <|
  lt (at_ a1 0) fun x11 =>
  bif (decide (x7 = 45)) || (decide (x11 = 43)) then
    grd (gZ 1 a1.length) <|
    lt (cB a1 1) fun x15 =>
    bif decide ((x15.length : Int) < 1) then
      some (0, 2)
    else
      jS F a1 x15
  else
    jS F a1 a1
else
  lB F a1
def je (F : Nat) (a1 : List UInt8) : Option (Int × Int) :=
hC (tf F a1) fun x4 x5 =>
bif !decide (x5 = 0) then
  grd (okS a1.length) <|
  grd (decide (x5 = 1 ∨ x5 = 2)) <|
  some (x4, 1)
else
  some (x4, 0)
end Go.Pv
namespace Go.Proofs.YtjegcifofddgbaaGreatDoor
open Go.RowKit Go.Av Go.Pv
theorem en87_num : ∀ (args : Array Value) (w : World), (callFunc 87 args).run Tryz.prog w = .ok (.enter 87 args) w := fun _ _ => by kernel_rfl
theorem vh : ∀ (args : Array Value) (w : World), (callFunc 88 args).run Tryz.prog w = .ok (.enter 88 args) w := fun _ _ => by kernel_rfl
theorem sz : ∀ (args : Array Value) (w : World), (callFunc 135 args).run Tryz.prog w = .ok (.enter 135 args) w := fun _ _ => by kernel_rfl
theorem sy : ∀ (args : Array Value) (w : World), (callFunc 190 args).run Tryz.prog w = .ok (.enter 190 args) w := fun _ _ => by kernel_rfl
theorem fR : ∀ (args : Array Value) (w : World), (callFunc 230 args).run Tryz.prog w = .ok (.enter 230 args) w := fun _ _ => by kernel_rfl
theorem xT : ∀ (args : Array Value) (w : World), (callFunc 231 args).run Tryz.prog w = .ok (.enter 231 args) w := fun _ _ => by kernel_rfl
set_option maxRecDepth 100000 in
set_option maxHeartbeats 1000000 in
theorem ff (F : Nat) (a1 : UInt8) (r2 : UInt8) (H : eW F a1 = some r2) : ACalls Tryz.prog 230 [u8 a1] [] (Ret (u8 r2) []) := by
 unfold eW at H
 refine ax Tryz.func230 rfl rfl ?_;show AW _ _ 5 _ _ _;refine af <| aa ?_;show AR _ _ _ _ _ [0] _;refine za rfl <| ag <| af <| aa ?_;show AR _ _ _ _ _ [0, 1, 2] _;refine zm rfl <| zS rfl (g_or8 (a := a1) (b := 32) rfl rfl) <| za rfl <| ag <| aL ?_;obtain rfl := ap H;exact And.intro rfl (Exists.intro _ (Exists.intro _ ⟨aH rfl (.refl _), aI [] rfl, rfl, rfl⟩))
set_option maxRecDepth 100000 in
set_option maxHeartbeats 1000000 in
theorem nT (F : Nat) (a1 : List UInt8) (r2 : Bool) (H : iW F a1 = some r2) : ACalls Tryz.prog 231 [S a1] [] (Ret (B r2) []) := by
 unfold iW at H
 refine ax Tryz.func231 rfl rfl ?_;show AW _ _ 94 _ _ _;refine af <| aa ?_;show AR _ _ _ _ _ [0] _;refine za rfl <| ag <| af <| aa ?_;show AR _ _ _ _ _ [0] _;refine za rfl <| ag <| af <| aa ?_;show AR _ _ _ _ _ [0] _;refine za rfl <| ag <| bk (X := (List UInt8)) (fun y15 => ⟨[(0, S y15), (3, .v (.int .i32 94)), (4, i64 0)], [], []⟩) (fun y15 => dR F y15 = some r2) ?_ ?_
 ·refine af ?_;obtain ⟨g4, H⟩ := dq H;obtain ⟨x5, e6, H⟩ := bg H;obtain ⟨g8, H⟩ := dq H;obtain ⟨x9, e10, H⟩ := bg H;refine aa ?_;show AR _ _ _ _ _ [0, 1, 2, 3, 4, 5, 6, 7, 8, 9, 10, 11, 12] _;refine zm rfl <| zS rfl (aU ab rfl) <| zS rfl (dz rfl rfl) <| zm rfl <| bb (l := []) 18 (B ((decide (1 ≤ (a1.length : Int))) && ((decide (x5 = 45)) || (decide (x9 = 43))))) (fun K => ?_) ?_
  ·rcases ak (decide (1 ≤ (a1.length : Int))) with h3 | h3
   ·refine zM h3 rfl <| zU h3 rfl (bj ab rfl rfl (g4 h3) e6) <| zU h3 rfl (fw (a := x5) (b := 45) rfl rfl) <| zM h3 rfl <| bb (l := [12]) 17 (B ((decide (x5 = 45)) || (decide (x9 = 43)))) (fun K => ?_) ?_
    ·rcases ak (decide (x5 = 45)) with h7 | h7
     ·refine zF h7 rfl <| zF h7 rfl <| zF h7 rfl <| zU h3 rfl (aG (av := .v _) rfl h7 rfl) ?_;exact K _ 3 _ (aA (fT h7)) rfl rfl
     ·refine zM h7 rfl <| zU h7 rfl (bj ab rfl rfl (g8 (lQ h3 (nf h7))) e10) <| zU h7 rfl (fw (a := x9) (b := 43) rfl rfl) <| zU h3 rfl (aE (av := .v _) rfl h7 rfl) ?_;exact K _ 3 _ (aA (fU h7)) rfl rfl
    refine zS rfl (aG (av := .v _) rfl h3 rfl) ?_;exact K _ 5 _ (aA (cz h3)) rfl rfl
   ·refine zF h3 rfl <| zF h3 rfl <| zF h3 rfl <| zF h3 rfl <| gU rfl rfl rfl rfl rfl <| gU rfl rfl rfl rfl rfl <| gU rfl rfl rfl rfl rfl <| zF h3 rfl <| zS rfl (aE (av := .v _) rfl h3 rfl) ?_;exact K _ 8 _ (aA (cA h3)) rfl rfl
  refine ag <| az rfl (fun c11 => ?_) (fun c11 => ?_)
  ·replace H := aZ c11 H;obtain ⟨g12, H⟩ := ay H;obtain ⟨x13, e14, H⟩ := bg H;refine aa ?_;show AR _ _ _ _ _ [0, 1, 2] _;refine zm rfl <| zS rfl (cI ab rfl rfl g12 e14) <| za rfl <| ag ?_;exact Exists.intro x13 ⟨H, aP [] (.cons (.refl _) (.cons (.refl _) (.cons (.refl _) (.nil _)))) rfl⟩
  ·replace H := ba c11 H;refine aC ?_;exact Exists.intro a1 ⟨H, aP [] (.cons (.refl _) (.cons (.refl _) (.cons (.refl _) (.nil _)))) rfl⟩
 rintro y15 H;replace H : dR F y15 = some r2 := H
 unfold dR at H
 refine af <| aa ?_;show AR _ _ _ _ _ [0] _;refine za rfl <| ag <| bk (X := Int × Int × Bool) (fun (y45, y46, y47) => ⟨[(0, S y15), (3, .v (.int .i32 y45)), (4, i64 y46), (5, B y47)], [], []⟩) (fun (y45, y46, y47) => dS F y15 y45 y46 y47 = some r2) ?_ ?_
 ·refine af ?_;obtain ⟨g18, H⟩ := dq H;obtain ⟨x19, e20, H⟩ := bg H;obtain ⟨g22, H⟩ := dq H;obtain ⟨x23, e24, H⟩ := bg H;obtain ⟨x25, e26, H⟩ := ft H;obtain ⟨g28, H⟩ := dq H;obtain ⟨x29, e30, H⟩ := bg H;obtain ⟨x31, e32, H⟩ := ft H;obtain ⟨g34, H⟩ := dq H;obtain ⟨x35, e36, H⟩ := bg H;obtain ⟨x37, e38, H⟩ := ft H;refine aa ?_;show AR _ _ _ _ _ [0, 1, 2, 3, 4, 5, 6, 7, 8, 9, 10, 11, 12, 13, 14, 15, 16, 17, 18, 19, 20, 21, 22, 23, 24, 25] _;refine zm rfl <| zS rfl (aU ab rfl) <| zS rfl (dz rfl rfl) <| zm rfl <| bb (l := [8, 9, 10, 11, 12, 13, 14, 15, 16, 17, 18, 19, 20, 21, 22, 23, 24, 25]) 28 (B ((decide (2 ≤ (y15.length : Int))) && (decide (x19 = 48)))) (fun K => ?_) ?_
  ·rcases ak (decide (2 ≤ (y15.length : Int))) with h17 | h17
   ·refine zM h17 rfl <| zU h17 rfl (bj ab rfl rfl (g18 h17) e20) <| zU h17 rfl (fw (a := x19) (b := 48) rfl rfl) <| zS rfl (aG (av := .v _) rfl h17 rfl) ?_;exact K _ 3 _ (aA (cz h17)) rfl rfl
   ·refine zF h17 rfl <| zF h17 rfl <| zF h17 rfl <| zS rfl (aE (av := .v _) rfl h17 rfl) ?_;exact K _ 3 _ (aA (cA h17)) rfl rfl
  refine zm rfl <| bb (l := []) 46 (B (((decide (2 ≤ (y15.length : Int))) && (decide (x19 = 48))) && (((decide (x25 = 98)) || (decide (x31 = 111))) || (decide (x37 = 120))))) (fun K => ?_) ?_
  ·rcases ak ((decide (2 ≤ (y15.length : Int))) && (decide (x19 = 48))) with h21 | h21
   ·refine zM h21 rfl <| zU h21 rfl (bj ab rfl rfl (g22 h21) e24) <| zT h21 rfl (aD rfl fR rfl (ff F x23 x25 (e26 h21)) ?_);refine zU h21 rfl (fw (a := x25) (b := 98) rfl rfl) <| zM h21 rfl <| bb (l := [19, 20, 21, 22, 23, 24, 25]) 39 (B ((decide (x25 = 98)) || (decide (x31 = 111)))) (fun K => ?_) ?_
    ·rcases ak (decide (x25 = 98)) with h27 | h27
     ·refine zF h27 rfl <| zF h27 rfl <| zF h27 rfl <| zF h27 rfl <| zU h21 rfl (aG (av := .v _) rfl h27 rfl) ?_;exact K _ 4 _ (aA (fT h27)) rfl rfl
     ·refine zM h27 rfl <| zU h27 rfl (bj ab rfl rfl (g28 (lQ h21 (nf h27))) e30) <| zT h27 rfl (aD rfl fR rfl (ff F x29 x31 (e32 (lQ h21 (nf h27)))) ?_);refine zU h27 rfl (fw (a := x31) (b := 111) rfl rfl) <| zU h21 rfl (aE (av := .v _) rfl h27 rfl) ?_;exact K _ 4 _ (aA (fU h27)) rfl rfl
    refine zM h21 rfl <| bb (l := [25]) 45 (B (((decide (x25 = 98)) || (decide (x31 = 111))) || (decide (x37 = 120)))) (fun K => ?_) ?_
    ·rcases ak ((decide (x25 = 98)) || (decide (x31 = 111))) with h33 | h33
     ·refine zF h33 rfl <| zF h33 rfl <| zF h33 rfl <| zF h33 rfl <| zU h21 rfl (aG (av := .v _) rfl h33 rfl) ?_;exact K _ 4 _ (aA (fT h33)) rfl rfl
     ·refine zM h33 rfl <| zU h33 rfl (bj ab rfl rfl (g34 (lQ h21 (nf h33))) e36) <| zT h33 rfl (aD rfl fR rfl (ff F x35 x37 (e38 (lQ h21 (nf h33)))) ?_);refine zU h33 rfl (fw (a := x37) (b := 120) rfl rfl) <| zU h21 rfl (aE (av := .v _) rfl h33 rfl) ?_;exact K _ 4 _ (aA (fU h33)) rfl rfl
    refine zS rfl (aG (av := .v _) rfl h21 rfl) ?_;exact K _ 8 _ (aA (cz h21)) rfl rfl
   ·refine zF h21 rfl <| zF h21 rfl <| zF h21 rfl <| zF h21 rfl <| zF h21 rfl <| gU rfl rfl rfl rfl rfl <| gU rfl rfl rfl rfl rfl <| gU rfl rfl rfl rfl rfl <| gU rfl rfl rfl rfl rfl <| zF h21 rfl <| zF h21 rfl <| gU rfl rfl rfl rfl rfl <| gU rfl rfl rfl rfl rfl <| gU rfl rfl rfl rfl rfl <| gU rfl rfl rfl rfl rfl <| zF h21 rfl <| zS rfl (aE (av := .v _) rfl h21 rfl) ?_;exact K _ 16 _ (aA (cA h21)) rfl rfl
  refine ag <| az rfl (fun c39 => ?_) (fun c39 => ?_)
  ·replace H := aZ c39 H;refine af <| aa ?_;show AR _ _ _ _ _ [0] _;refine za rfl <| ag <| af <| aa ?_;show AR _ _ _ _ _ [0] _;refine za rfl <| ag ?_;obtain ⟨g40, H⟩ := ay H;obtain ⟨x41, e42, H⟩ := bg H;obtain ⟨x43, e44, H⟩ := bK H;refine aa ?_;show AR _ _ _ _ _ [0, 1, 2, 3, 4] _;refine zm rfl <| zS rfl (bj ab rfl rfl g40 e42) <| aq rfl rfl (aD rfl fR rfl (ff F x41 x43 e44) ?_);refine zS rfl (fw (a := x43) (b := 120) rfl rfl) <| za rfl <| ag ?_;exact Exists.intro (48, 2, decide (x43 = 120)) ⟨H, aP [] (.cons (.refl _) (.cons (.refl _) (.cons (.refl _) (.cons (.refl _) (.nil _))))) rfl⟩
  ·replace H := ba c39 H;refine aC ?_;exact Exists.intro (94, 0, false) ⟨H, aP [] (.cons (.refl _) (.cons (.refl _) (.cons (.refl _) (.cons (.refl _) (.nil _))))) rfl⟩
 rintro ⟨y45, y46, y47⟩ H;replace H : dS F y15 y45 y46 y47 = some r2 := H
 unfold dS at H
 refine bk (X := Int) (fun y84 => ⟨[(3, .v (.int .i32 y84))], [], []⟩) (fun y84 => eZ y84 = some r2) ?_ ?_
 ·refine aO <| cl (X := Nat × Int × Int) (fun (n52, y49, y50) => ⟨[(0, S y15), (3, .v (.int .i32 y49)), (4, i64 y50), (5, B y47)], [], []⟩) (fun (n52, y49, y50) => dT F y15 y47 n52 (y49, y50) = some r2) (fun (n52, y49, y50) => n52) (F, y45, y46) H (aP [] (.cons (.refl _) (.cons (.refl _) (.cons (.refl _) (.cons (.refl _) (.nil _))))) rfl) ?_;rintro ⟨n52, y49, y50⟩ H;obtain ⟨n52, rfl, H⟩ := cO H;replace H : gi F y15 y47 (dT F y15 y47 n52) y49 y50 = some r2 := H
  unfold gi at H
  refine af <| af <| aa ?_;show AR _ _ _ _ _ [0, 1, 2, 3] _;refine zm rfl <| zm rfl <| zS rfl (aU ab rfl) <| zS rfl (bC rfl rfl) <| ag <| az rfl (fun c53 => ?_) (fun c53 => ?_)
  ·replace H := aZ c53 H;refine aC <| bk (X := Int) (fun y81 => ⟨[(0, S y15), (3, .v (.int .i32 y81)), (4, i64 y50), (5, B y47)], [], []⟩) (fun y81 => dt y50 (dT F y15 y47 n52) y81 = some r2) ?_ ?_
   ·refine aO <| af <| af ?_;obtain ⟨g54, H⟩ := ay H;obtain ⟨x55, e56, H⟩ := bg H;obtain ⟨g58, H⟩ := dq H;obtain ⟨x59, e60, H⟩ := bg H;obtain ⟨g63, H⟩ := dq H;obtain ⟨x64, e65, H⟩ := bg H;obtain ⟨x66, e67, H⟩ := ft H;obtain ⟨g69, H⟩ := dq H;obtain ⟨x70, e71, H⟩ := bg H;obtain ⟨x72, e73, H⟩ := ft H;refine aa ?_;show AR _ _ _ _ _ [0, 1, 2, 3, 4, 5, 6, 7, 8, 9, 10, 11, 12, 13, 14, 15, 16, 17, 18, 19, 20, 21, 22, 23, 24, 25, 26] _;refine zm rfl <| zm rfl <| zS rfl (bj ab rfl rfl g54 e56) <| zS rfl (dI rfl rfl) <| zm rfl <| bb (l := [10, 11, 12, 13, 14, 15, 16, 17, 18, 19, 20, 21, 22, 23, 24, 25, 26]) 66 (B ((decide (48 ≤ (x55.toNat : Int))) && (decide ((x59.toNat : Int) ≤ 57)))) (fun K => ?_) ?_
    ·rcases ak (decide (48 ≤ (x55.toNat : Int))) with h57 | h57
     ·refine zM h57 rfl <| zM h57 rfl <| zU h57 rfl (bj ab rfl rfl (g58 h57) e60) <| zU h57 rfl (dI rfl rfl) <| zS rfl (aG (av := .v _) rfl h57 rfl) ?_;exact K _ 4 _ (aA (cz h57)) rfl rfl
     ·refine zF h57 rfl <| zF h57 rfl <| zF h57 rfl <| zF h57 rfl <| zS rfl (aE (av := .v _) rfl h57 rfl) ?_;exact K _ 4 _ (aA (cA h57)) rfl rfl
    refine zm rfl <| bb (l := []) 83 (B (((decide (48 ≤ (x55.toNat : Int))) && (decide ((x59.toNat : Int) ≤ 57))) || ((y47 && (decide (97 ≤ (x66.toNat : Int)))) && (decide ((x72.toNat : Int) ≤ 102))))) (fun K => ?_) ?_
    ·rcases ak ((decide (48 ≤ (x55.toNat : Int))) && (decide ((x59.toNat : Int) ≤ 57))) with h61 | h61
     ·refine zF h61 rfl <| zF h61 rfl <| gU rfl rfl rfl rfl rfl <| gU rfl rfl rfl rfl rfl <| gU rfl rfl rfl rfl rfl <| gU rfl rfl rfl rfl rfl <| gU rfl rfl rfl rfl rfl <| zF h61 rfl <| zF h61 rfl <| gU rfl rfl rfl rfl rfl <| gU rfl rfl rfl rfl rfl <| gU rfl rfl rfl rfl rfl <| gU rfl rfl rfl rfl rfl <| gU rfl rfl rfl rfl rfl <| zF h61 rfl <| zS rfl (aG (av := .v _) rfl h61 rfl) ?_;exact K _ 15 _ (aA (fT h61)) rfl rfl
     ·refine zM h61 rfl <| zM h61 rfl <| bb (l := [19, 20, 21, 22, 23, 24, 25, 26]) 75 (B (y47 && (decide (97 ≤ (x66.toNat : Int))))) (fun K => ?_) ?_
      ·rcases ak y47 with h62 | h62
       ·refine zM h62 rfl <| zM h62 rfl <| zU h62 rfl (bj ab rfl rfl (g63 (lQ (nf h61) h62)) e65) <| zT h62 rfl (aD rfl fR rfl (ff F x64 x66 (e67 (lQ (nf h61) h62))) ?_);refine zU h62 rfl (dI rfl rfl) <| zU h61 rfl (aG (av := .v _) rfl h62 rfl) ?_;exact K _ 5 _ (aA (cz h62)) rfl rfl
       ·refine zF h62 rfl <| zF h62 rfl <| zF h62 rfl <| zF h62 rfl <| zF h62 rfl <| zU h61 rfl (aE (av := .v _) rfl h62 rfl) ?_;exact K _ 5 _ (aA (cA h62)) rfl rfl
      refine zM h61 rfl <| bb (l := [26]) 82 (B ((y47 && (decide (97 ≤ (x66.toNat : Int)))) && (decide ((x72.toNat : Int) ≤ 102)))) (fun K => ?_) ?_
      ·rcases ak (y47 && (decide (97 ≤ (x66.toNat : Int)))) with h68 | h68
       ·refine zM h68 rfl <| zM h68 rfl <| zU h68 rfl (bj ab rfl rfl (g69 (lQ (nf h61) h68)) e71) <| zT h68 rfl (aD rfl fR rfl (ff F x70 x72 (e73 (lQ (nf h61) h68))) ?_);refine zU h68 rfl (dI rfl rfl) <| zU h61 rfl (aG (av := .v _) rfl h68 rfl) ?_;exact K _ 5 _ (aA (cz h68)) rfl rfl
       ·refine zF h68 rfl <| zF h68 rfl <| zF h68 rfl <| zF h68 rfl <| zF h68 rfl <| zU h61 rfl (aE (av := .v _) rfl h68 rfl) ?_;exact K _ 5 _ (aA (cA h68)) rfl rfl
      refine zS rfl (aE (av := .v _) rfl h61 rfl) ?_;exact K _ 5 _ (aA (fU h61)) rfl rfl
    refine ag <| az rfl (fun c74 => ?_) (fun c74 => ?_)
    ·replace H := aZ c74 H;refine af <| aa ?_;show AR _ _ _ _ _ [0] _;refine za rfl <| ag <| bZ ?_;exact Exists.intro 48 ⟨H, aP [] (.cons (.refl _) (.cons (.refl _) (.cons (.refl _) (.cons (.refl _) (.nil _))))) rfl⟩
    ·replace H := ba c74 H;refine aC <| af <| af ?_;obtain ⟨g75, H⟩ := ay H;obtain ⟨x76, e77, H⟩ := bg H;refine aa ?_;show AR _ _ _ _ _ [0, 1, 2, 3] _;refine zm rfl <| zm rfl <| zS rfl (bj ab rfl rfl g75 e77) <| zS rfl (fw (a := x76) (b := 95) rfl rfl) <| ag <| az rfl (fun c78 => ?_) (fun c78 => ?_)
     ·replace H := aZ c78 H;refine af <| af <| aa ?_;show AR _ _ _ _ _ [0, 1] _;refine zm rfl <| zS rfl (dg rfl rfl) <| ag <| az rfl (fun c79 => ?_) (fun c79 => ?_)
      ·replace H := aZ c79 H;refine af <| aa ?_;show AR _ _ _ _ _ [0] _;refine za rfl <| ag <| aL ?_;obtain rfl := ap H;exact And.intro rfl (Exists.intro _ (Exists.intro _ ⟨aH rfl (.refl _), aI [] rfl, rfl, rfl⟩))
      ·replace H := ba c79 H;refine aC <| af <| aa ?_;show AR _ _ _ _ _ [0] _;refine za rfl <| ag <| bZ ?_;exact Exists.intro 95 ⟨H, aP [] (.cons (.refl _) (.cons (.refl _) (.cons (.refl _) (.cons (.refl _) (.nil _))))) rfl⟩
     ·replace H := ba c78 H;refine aC <| af <| af <| aa ?_;show AR _ _ _ _ _ [0, 1] _;refine zm rfl <| zS rfl (cJ rfl rfl) <| ag <| az rfl (fun c80 => ?_) (fun c80 => ?_)
      ·replace H := aZ c80 H;refine af <| aa ?_;show AR _ _ _ _ _ [0] _;refine za rfl <| ag <| aL ?_;obtain rfl := ap H;exact And.intro rfl (Exists.intro _ (Exists.intro _ ⟨aH rfl (.refl _), aI [] rfl, rfl, rfl⟩))
      ·replace H := ba c80 H;refine aC <| aa ?_;show AR _ _ _ _ _ [0] _;refine za rfl <| ag ?_;exact Exists.intro 33 ⟨H, aP [] (.cons (.refl _) (.cons (.refl _) (.cons (.refl _) (.cons (.refl _) (.nil _))))) rfl⟩
   rintro y81 H;replace H : dt y50 (dT F y15 y47 n52) y81 = some r2 := H
   unfold dt at H
   obtain ⟨g83, H⟩ := ay H;refine aa ?_;show AR _ _ _ _ _ [0, 1, 2] _;refine zm rfl <| zS rfl (bu rfl rfl g83) <| za rfl <| ag ?_;exact Exists.intro (n52, y81, y50 + 1) ⟨H, Nat.lt_succ_self _, aP [] (.cons (.refl _) (.cons (.refl _) (.cons (.refl _) (.cons (.refl _) (.nil _))))) rfl⟩
  ·replace H := ba c53 H;refine bZ ?_;exact Exists.intro y49 ⟨H, aP [] (.cons (.refl _) (.nil _)) rfl⟩
 rintro y84 H;replace H : eZ y84 = some r2 := H
 unfold eZ at H
 refine af <| aa ?_;show AR _ _ _ _ _ [0, 1, 2] _;refine zm rfl <| zS rfl (dg rfl rfl) <| za rfl <| ag <| aL ?_;obtain rfl := ap H;exact And.intro rfl (Exists.intro _ (Exists.intro _ ⟨aH rfl (.refl _), aI [] rfl, rfl, rfl⟩))
abbrev _root_.Go.Av.ed := @Tryz.underlying117
abbrev _root_.Go.Av.bB := @Tryz.underlying167
set_option maxRecDepth 100000 in
set_option maxHeartbeats 1000000 in
theorem lU (F : Nat) (a1 : List UInt8) (a2 : Int) (a3 : Int) (r4 : Int) (r5 : Int) (H : ew F a1 a2 a3 = some (r4, r5)) : ACalls Tryz.prog 190 [S a1, i64 a2, i64 a3] [] (Ret (.tup [.v (.int .u64 r4), eg 167 .i64 r5]) []) := by
 unfold ew at H
 refine ax Tryz.func190 rfl rfl ?_;show AW _ _ 172 _ _ _;refine af <| aa ?_;show AR _ _ _ _ _ [0, 1] _;refine za rfl <| za rfl <| ag <| af <| af <| aa ?_;show AR _ _ _ _ _ [0, 1] _;refine zm rfl <| zS rfl (eU rfl rfl) <| ag <| az rfl (fun c6 => ?_) (fun c6 => ?_)
 ·replace H := aZ c6 H;refine af <| aa ?_;show AR _ _ _ _ _ [0, 1, 2] _;refine zS rfl (bw (a := .v _) bB rfl rfl) <| za rfl <| zS rfl (aB (av := .ifc _ _) rfl) <| ag <| aL ?_;obtain ⟨rfl, rfl⟩ := dh H;exact And.intro rfl (Exists.intro _ (Exists.intro _ ⟨be rfl (.refl _) (.refl _), aI [] rfl, rfl, rfl⟩))
 ·replace H := ba c6 H;refine aC <| af <| aa ?_;show AR _ _ _ _ _ [0, 1, 2] _;refine zm rfl <| zS rfl (cJ rfl rfl) <| za rfl <| ag <| af <| aa ?_;show AR _ _ _ _ _ [0, 1] _;refine zm rfl <| za rfl <| ag <| bk (X := Unit) (fun _ => ⟨[(0, S a1), (1, i64 a2), (2, i64 a3), (8, B (decide (a2 = 0))), (9, S a1)], [], []⟩) (fun _ => ei F a1 a2 a3 = some (r4, r5)) ?_ ?_
  ·refine aO <| af <| aa ?_;show AR _ _ _ _ _ [0, 1, 2, 3, 4, 5, 6] _;refine zm rfl <| zS rfl (dI rfl rfl) <| zm rfl <| bb (l := [6]) 31 (B ((decide (2 ≤ a2)) && (decide (a2 ≤ 36)))) (fun K => ?_) ?_
   ·rcases ak (decide (2 ≤ a2)) with h7 | h7
    ·refine zM h7 rfl <| zU h7 rfl (dI rfl rfl) <| zS rfl (aG (av := .v _) rfl h7 rfl) ?_;exact K _ 2 _ (aA (cz h7)) rfl rfl
    ·refine zF h7 rfl <| zF h7 rfl <| zS rfl (aE (av := .v _) rfl h7 rfl) ?_;exact K _ 2 _ (aA (cA h7)) rfl rfl
   refine za rfl <| ag ?_;obtain ⟨g9, H⟩ := ay H;refine az rfl (fun _ => ?_) (fun hx => bS g9 hx);refine aC ?_;exact Exists.intro () ⟨H, aP [] (.cons (.refl _) (.cons (.refl _) (.cons (.refl _) (.cons (.refl _) (.cons (.refl _) (.nil _)))))) rfl⟩
  rintro _ H;replace H : ei F a1 a2 a3 = some (r4, r5) := H
  unfold ei at H
  refine bk (X := Unit) (fun _ => ⟨[(0, S a1), (1, i64 a2), (2, i64 64), (8, B (decide (a2 = 0))), (9, S a1)], [], []⟩) (fun _ => ej F a1 a2 = some (r4, r5)) ?_ ?_
  ·refine af <| aa ?_;show AR _ _ _ _ _ [0, 1] _;refine zm rfl <| zS rfl (cJ rfl rfl) <| ag ?_;obtain ⟨g12, H⟩ := ay H;refine az rfl (fun _ => ?_) (fun hx => bS g12 hx);refine aa ?_;show AR _ _ _ _ _ [0] _;refine za rfl <| ag ?_;exact Exists.intro () ⟨H, aP [] (.cons (.refl _) (.cons (.refl _) (.cons (.refl _) (.cons (.refl _) (.cons (.refl _) (.nil _)))))) rfl⟩
  rintro _ H;replace H : ej F a1 a2 = some (r4, r5) := H
  unfold ej at H
  refine af <| aa ?_;show AR _ _ _ _ _ [0] _;refine za rfl <| ag <| bk (X := Int) (fun y17 => ⟨[(0, S a1), (1, i64 a2), (2, i64 64), (8, B (decide (a2 = 0))), (9, S a1), (10, .v (.int .u64 y17))], [], []⟩) (fun y17 => dk F a1 a2 y17 = some (r4, r5)) ?_ ?_
  ·refine af <| aa ?_;show AR _ _ _ _ _ [0] _;refine zm rfl <| ag <| aO <| af <| aa ?_;show AR _ _ _ _ _ [0, 1] _;refine zS rfl (cJ rfl rfl) <| za rfl <| ag <| az rfl (fun c14 => ?_) (fun c14 => ?_)
   ·replace H := aZ c14 H;refine aa ?_;show AR _ _ _ _ _ [0] _;refine za rfl <| ag ?_;exact Exists.intro 1844674407370955162 ⟨H, aP [] (.cons (.refl _) (.cons (.refl _) (.cons (.refl _) (.cons (.refl _) (.cons (.refl _) (.cons (.refl _) (.nil _))))))) rfl⟩
   ·replace H := ba c14 H;refine af <| aa ?_;show AR _ _ _ _ _ [0, 1] _;refine zS rfl (cJ rfl rfl) <| za rfl <| ag <| az rfl (fun c15 => ?_) (fun c15 => ?_)
    ·replace H := aZ c15 H;refine aa ?_;show AR _ _ _ _ _ [0] _;refine za rfl <| ag ?_;exact Exists.intro 1152921504606846976 ⟨H, aP [] (.cons (.refl _) (.cons (.refl _) (.cons (.refl _) (.cons (.refl _) (.cons (.refl _) (.cons (.refl _) (.nil _))))))) rfl⟩
    ·replace H := ba c15 H;obtain ⟨g16, H⟩ := ay H;refine aa ?_;show AR _ _ _ _ _ [0, 1, 2, 3, 4] _;refine zm rfl <| zS rfl (cw (by kernel_rfl) Tryz.underlying207 rfl) <| zS rfl (uY rfl rfl (of_decide_eq_true g16)) <| zS rfl (ox rfl rfl) <| za rfl <| ag ?_;exact Exists.intro (IntKind.u64.wrap ((IntKind.u64.wrap (Int.tdiv 18446744073709551615 (IntKind.u64.wrap a2))) + 1)) ⟨H, aP [] (.cons (.refl _) (.cons (.refl _) (.cons (.refl _) (.cons (.refl _) (.cons (.refl _) (.cons (.refl _) (.nil _))))))) rfl⟩
  rintro y17 H;replace H : dk F a1 a2 y17 = some (r4, r5) := H
  unfold dk at H
  refine af ?_;obtain ⟨g19, H⟩ := ay H;refine aa ?_;show AR _ _ _ _ _ [0, 1, 2, 3, 4] _;refine zm rfl <| zS rfl (cw (by kernel_rfl) ed rfl) <| zS rfl (oE rfl rfl (of_decide_eq_true g19)) <| zS rfl (mx rfl rfl) <| za rfl <| ag <| af <| aa ?_;show AR _ _ _ _ _ [0] _;refine za rfl <| ag <| af <| aa ?_;show AR _ _ _ _ _ [0] _;refine za rfl <| ag <| bk (X := Bool × Int) (fun (y53, y54) => ⟨[(9, S a1), (12, B y53), (13, .v (.int .u64 y54))], [], []⟩) (fun (y53, y54) => ek F a1 y53 y54 = some (r4, r5)) ?_ ?_
  ·refine af ?_;obtain ⟨g20, H⟩ := ay H;refine aa ?_;show AR _ _ _ _ _ [0, 1, 2, 3] _;refine zm rfl <| zX rfl (cy (bytes := 1) ab ac aY rfl g20) ?_;rintro _ _ ⟨t21, rfl, rfl⟩;refine zS rfl (aQ ac rfl) <| zm rfl <| ag <| aO <| cl (X := Nat × Bool × Int × Int) (fun (n26, y22, y23, y24) => ⟨[(1, i64 a2), (8, B (decide (a2 = 0))), (9, S a1), (10, .v (.int .u64 y17)), (11, .v (.int .u64 (IntKind.u64.wrap ((IntKind.u64.wrap (1 * 2 ^ min (Int.toNat (IntKind.u64.wrap 64)) IntKind.u64.bits)) - 1)))), (12, B y22), (13, .v (.int .u64 y23)), (99, slE Enc.byte a1 (some t21)), (100, i64 (a1.length : Int)), (101, i64 y24)], [], [.tok t21 5]⟩) (fun (n26, y22, y23, y24) => cj F a1 a2 y17 n26 (y22, y23, y24) = some (r4, r5)) (fun (n26, y22, y23, y24) => n26) (F, false, 0, 0) H (aP [0] (.cons (.refl _) (.cons (.refl _) (.cons (.refl _) (.cons (.refl _) (.cons (.refl _) (.cons (.refl _) (.cons (.refl _) (.cons (.refl _) (.cons (.refl _) (.cons (.refl _) (.nil _))))))))))) rfl) ?_;rintro ⟨n26, y22, y23, y24⟩ H;obtain ⟨n26, rfl, H⟩ := cO H;replace H : dB F a1 a2 y17 (cj F a1 a2 y17 n26) y22 y23 y24 = some (r4, r5) := H
   unfold dB at H
   refine af <| aa ?_;show AR _ _ _ _ _ [0] _;refine zS rfl (bC rfl rfl) <| ag <| af <| az rfl (fun c27 => ?_) (fun c27 => ?_)
   ·replace H := aZ c27 H;refine aC <| bk (X := Bool × Int) (fun (y49, y50) => ⟨[(1, i64 a2), (8, B (decide (a2 = 0))), (9, S a1), (10, .v (.int .u64 y17)), (11, .v (.int .u64 (IntKind.u64.wrap ((IntKind.u64.wrap (1 * 2 ^ min (Int.toNat (IntKind.u64.wrap 64)) IntKind.u64.bits)) - 1)))), (12, B y49), (13, .v (.int .u64 y50)), (99, slE Enc.byte a1 (some t21)), (100, i64 (a1.length : Int)), (101, i64 y24)], [], [.tok t21 5]⟩) (fun (y49, y50) => dA y24 (cj F a1 a2 y17 n26) y49 y50 = some (r4, r5)) ?_ ?_
    ·refine aO <| af ?_;obtain ⟨g28, H⟩ := ay H;obtain ⟨x29, e30, H⟩ := bg H;refine aa ?_;show AR _ _ _ _ _ [0, 1, 2] _;refine zS rfl (cn (E := Enc.byte) ac (by kernel_rfl) rfl rfl g28 e30) <| zS rfl (aJ aY rfl rfl) <| za rfl <| ag <| af <| aa ?_;show AR _ _ _ _ _ [0] _;refine za rfl <| ag <| bk (X := UInt8) (fun y43 => ⟨[(1, i64 a2), (8, B (decide (a2 = 0))), (9, S a1), (10, .v (.int .u64 y17)), (11, .v (.int .u64 (IntKind.u64.wrap ((IntKind.u64.wrap (1 * 2 ^ min (Int.toNat (IntKind.u64.wrap 64)) IntKind.u64.bits)) - 1)))), (12, B y22), (13, .v (.int .u64 y23)), (16, u8 y43), (99, slE Enc.byte a1 (some t21)), (100, i64 (a1.length : Int)), (101, i64 y24)], [], [.tok t21 5]⟩) (fun y43 => cU a2 y17 y22 y23 y24 (cj F a1 a2 y17 n26) y43 = some (r4, r5)) ?_ ?_
     ·refine aO <| af <| aa ?_;show AR _ _ _ _ _ [0, 1, 2, 3, 4, 5] _;refine zm rfl <| zS rfl (fw (a := x29) (b := 95) rfl rfl) <| zm rfl <| bb (l := [5]) 111 (B ((decide (x29 = 95)) && (decide (a2 = 0)))) (fun K => ?_) ?_
      ·rcases ak (decide (x29 = 95)) with h31 | h31
       ·refine zM h31 rfl <| zS rfl (aG (av := .v _) rfl h31 rfl) ?_;exact K _ 1 _ (aA (cz h31)) rfl rfl
       ·refine zF h31 rfl <| zS rfl (aE (av := .v _) rfl h31 rfl) ?_;exact K _ 1 _ (aA (cA h31)) rfl rfl
      refine za rfl <| ag <| az rfl (fun c32 => ?_) (fun c32 => ?_)
      ·replace H := aZ c32 H;refine af <| aa ?_;show AR _ _ _ _ _ [0] _;refine za rfl <| ag <| bZ ?_;exact Exists.intro (true, y23) ⟨H, aP [0] (.cons (.refl _) (.cons (.refl _) (.cons (.refl _) (.cons (.refl _) (.cons (.refl _) (.cons (.refl _) (.cons (.refl _) (.cons (.refl _) (.cons (.refl _) (.cons (.refl _) (.nil _))))))))))) rfl⟩
      ·replace H := ba c32 H;refine af <| aa ?_;show AR _ _ _ _ _ [0, 1, 2, 3, 4, 5, 6] _;refine zm rfl <| zS rfl (dI rfl rfl) <| zm rfl <| bb (l := [6]) 118 (B ((decide (48 ≤ (x29.toNat : Int))) && (decide ((x29.toNat : Int) ≤ 57)))) (fun K => ?_) ?_
       ·rcases ak (decide (48 ≤ (x29.toNat : Int))) with h33 | h33
        ·refine zM h33 rfl <| zU h33 rfl (dI rfl rfl) <| zS rfl (aG (av := .v _) rfl h33 rfl) ?_;exact K _ 2 _ (aA (cz h33)) rfl rfl
        ·refine zF h33 rfl <| zF h33 rfl <| zS rfl (aE (av := .v _) rfl h33 rfl) ?_;exact K _ 2 _ (aA (cA h33)) rfl rfl
       refine za rfl <| ag <| az rfl (fun c34 => ?_) (fun c34 => ?_)
       ·replace H := aZ c34 H;refine aa ?_;show AR _ _ _ _ _ [0, 1, 2] _;refine zm rfl <| zS rfl (tA (a := x29) (b := 48) rfl rfl) <| za rfl <| ag ?_;exact Exists.intro (x29 - 48) ⟨H, aP [0] (.cons (.refl _) (.cons (.refl _) (.cons (.refl _) (.cons (.refl _) (.cons (.refl _) (.cons (.refl _) (.cons (.refl _) (.cons (.refl _) (.cons (.refl _) (.cons (.refl _) (.cons (.refl _) (.nil _)))))))))))) rfl⟩
       ·replace H := ba c34 H;refine af ?_;obtain ⟨x35, e36, H⟩ := bK H;obtain ⟨x38, e39, H⟩ := ft H;refine aa ?_;show AR _ _ _ _ _ [0, 1, 2, 3, 4, 5, 6, 7, 8] _;refine zm rfl <| aq rfl rfl (aD rfl fR rfl (ff F x29 x35 e36) ?_);refine zS rfl (dI rfl rfl) <| zm rfl <| bb (l := [8]) 129 (B ((decide (97 ≤ (x35.toNat : Int))) && (decide ((x38.toNat : Int) ≤ 122)))) (fun K => ?_) ?_
        ·rcases ak (decide (97 ≤ (x35.toNat : Int))) with h37 | h37
         ·refine zM h37 rfl <| zT h37 rfl (aD rfl fR rfl (ff F x29 x38 (e39 h37)) ?_);refine zU h37 rfl (dI rfl rfl) <| zS rfl (aG (av := .v _) rfl h37 rfl) ?_;exact K _ 3 _ (aA (cz h37)) rfl rfl
         ·refine zF h37 rfl <| zF h37 rfl <| zF h37 rfl <| zS rfl (aE (av := .v _) rfl h37 rfl) ?_;exact K _ 3 _ (aA (cA h37)) rfl rfl
        refine za rfl <| ag <| az rfl (fun c40 => ?_) (fun c40 => ?_)
        ·replace H := aZ c40 H;obtain ⟨x41, e42, H⟩ := bK H;refine aa ?_;show AR _ _ _ _ _ [0, 1, 2, 3, 4] _;refine zm rfl <| aq rfl rfl (aD rfl fR rfl (ff F x29 x41 e42) ?_);refine zS rfl (tA (a := x41) (b := 97) rfl rfl) <| zS rfl (g_add8 (a := x41 - 97) (b := 10) rfl rfl) <| za rfl <| ag ?_;exact Exists.intro ((x41 - 97) + 10) ⟨H, aP [0] (.cons (.refl _) (.cons (.refl _) (.cons (.refl _) (.cons (.refl _) (.cons (.refl _) (.cons (.refl _) (.cons (.refl _) (.cons (.refl _) (.cons (.refl _) (.cons (.refl _) (.cons (.refl _) (.nil _)))))))))))) rfl⟩
        ·replace H := ba c40 H;refine af <| aa ?_;show AR _ _ _ _ _ [0, 1, 2] _;refine zS rfl (bw (a := .v _) bB rfl rfl) <| za rfl <| zS rfl (aB (av := .ifc _ _) rfl) <| ag <| aL ?_;obtain ⟨rfl, rfl⟩ := dh H;exact And.intro rfl (Exists.intro _ (Exists.intro _ ⟨be rfl (.refl _) (.refl _), aI [] rfl, rfl, rfl⟩))
     rintro y43 H;replace H : cU a2 y17 y22 y23 y24 (cj F a1 a2 y17 n26) y43 = some (r4, r5) := H
     unfold cU at H
     refine af <| af <| aa ?_;show AR _ _ _ _ _ [0, 1, 2, 3] _;refine zm rfl <| zm rfl <| zS rfl (lF (by kernel_rfl) aY rfl) <| zS rfl (dz rfl rfl) <| ag <| az rfl (fun c45 => ?_) (fun c45 => ?_)
     ·replace H := aZ c45 H;refine af <| aa ?_;show AR _ _ _ _ _ [0, 1, 2] _;refine zS rfl (bw (a := .v _) bB rfl rfl) <| za rfl <| zS rfl (aB (av := .ifc _ _) rfl) <| ag <| aL ?_;obtain ⟨rfl, rfl⟩ := dh H;exact And.intro rfl (Exists.intro _ (Exists.intro _ ⟨be rfl (.refl _) (.refl _), aI [] rfl, rfl, rfl⟩))
     ·replace H := ba c45 H;refine aC <| af <| af <| aa ?_;show AR _ _ _ _ _ [0, 1, 2] _;refine zm rfl <| zm rfl <| zS rfl (dz rfl rfl) <| ag <| az rfl (fun c46 => ?_) (fun c46 => ?_)
      ·replace H := aZ c46 H;refine af <| aa ?_;show AR _ _ _ _ _ [0, 1, 2, 3] _;refine zm rfl <| zS rfl (bw (a := .v _) bB rfl rfl) <| za rfl <| zS rfl (aB (av := .ifc _ _) rfl) <| ag <| aL ?_;obtain ⟨rfl, rfl⟩ := dh H;exact And.intro rfl (Exists.intro _ (Exists.intro _ ⟨be rfl (.refl _) (.refl _), aI [] rfl, rfl, rfl⟩))
      ·replace H := ba c46 H;refine aC <| af <| aa ?_;show AR _ _ _ _ _ [0, 1, 2, 3, 4] _;refine zm rfl <| zm rfl <| zS rfl (cw (by kernel_rfl) Tryz.underlying207 rfl) <| zS rfl (uZ rfl rfl) <| za rfl <| ag <| af <| aa ?_;show AR _ _ _ _ _ [0, 1, 2, 3, 4] _;refine zm rfl <| zm rfl <| zS rfl (cw (k' := .u8) (n := (y43.toNat : Int)) (by kernel_rfl) Tryz.underlying207 rfl) <| zS rfl (ox rfl rfl) <| za rfl <| ag <| af <| af <| aa ?_;show AR _ _ _ _ _ [0, 1, 2, 3, 4, 5, 6, 7] _;refine zm rfl <| zm rfl <| zS rfl (bC rfl rfl) <| zm rfl <| bb (l := []) 159 (B ((decide (IntKind.u64.wrap ((IntKind.u64.wrap (y23 * (IntKind.u64.wrap a2))) + (IntKind.u64.wrap (y43.toNat : Int))) < IntKind.u64.wrap (y23 * (IntKind.u64.wrap a2)))) || (decide (IntKind.u64.wrap ((IntKind.u64.wrap (1 * 2 ^ min (Int.toNat (IntKind.u64.wrap 64)) IntKind.u64.bits)) - 1) < IntKind.u64.wrap ((IntKind.u64.wrap (y23 * (IntKind.u64.wrap a2))) + (IntKind.u64.wrap (y43.toNat : Int))))))) (fun K => ?_) ?_
       ·rcases ak (decide (IntKind.u64.wrap ((IntKind.u64.wrap (y23 * (IntKind.u64.wrap a2))) + (IntKind.u64.wrap (y43.toNat : Int))) < IntKind.u64.wrap (y23 * (IntKind.u64.wrap a2)))) with h47 | h47
        ·refine zF h47 rfl <| zF h47 rfl <| zF h47 rfl <| zS rfl (aG (av := .v _) rfl h47 rfl) ?_;exact K _ 3 _ (aA (fT h47)) rfl rfl
        ·refine zM h47 rfl <| zM h47 rfl <| zU h47 rfl (cS rfl rfl) <| zS rfl (aE (av := .v _) rfl h47 rfl) ?_;exact K _ 3 _ (aA (fU h47)) rfl rfl
       refine ag <| az rfl (fun c48 => ?_) (fun c48 => ?_)
       ·replace H := aZ c48 H;refine af <| aa ?_;show AR _ _ _ _ _ [0, 1, 2, 3] _;refine zm rfl <| zS rfl (bw (a := .v _) bB rfl rfl) <| za rfl <| zS rfl (aB (av := .ifc _ _) rfl) <| ag <| aL ?_;obtain ⟨rfl, rfl⟩ := dh H;exact And.intro rfl (Exists.intro _ (Exists.intro _ ⟨be rfl (.refl _) (.refl _), aI [] rfl, rfl, rfl⟩))
       ·replace H := ba c48 H;refine aC <| aa ?_;show AR _ _ _ _ _ [0, 1] _;refine zm rfl <| za rfl <| ag ?_;exact Exists.intro (y22, IntKind.u64.wrap ((IntKind.u64.wrap (y23 * (IntKind.u64.wrap a2))) + (IntKind.u64.wrap (y43.toNat : Int)))) ⟨H, aP [0] (.cons (.refl _) (.cons (.refl _) (.cons (.refl _) (.cons (.refl _) (.cons (.refl _) (.cons (.refl _) (.cons (.refl _) (.cons (.refl _) (.cons (.refl _) (.cons (.refl _) (.nil _))))))))))) rfl⟩
    rintro ⟨y49, y50⟩ H;replace H : dA y24 (cj F a1 a2 y17 n26) y49 y50 = some (r4, r5) := H
    unfold dA at H
    obtain ⟨g52, H⟩ := ay H;refine aa ?_;show AR _ _ _ _ _ [0, 1] _;refine zS rfl (bu rfl rfl g52) <| zm rfl <| ag ?_;exact Exists.intro (n26, y49, y50, y24 + 1) ⟨H, Nat.lt_succ_self _, aP [0] (.cons (.refl _) (.cons (.refl _) (.cons (.refl _) (.cons (.refl _) (.cons (.refl _) (.cons (.refl _) (.cons (.refl _) (.cons (.refl _) (.cons (.refl _) (.cons (.refl _) (.nil _))))))))))) rfl⟩
   ·replace H := ba c27 H;refine bZ ?_;exact Exists.intro (y22, y23) ⟨H, aP [] (.cons (.refl _) (.cons (.refl _) (.cons (.refl _) (.nil _)))) rfl⟩
  rintro ⟨y53, y54⟩ H;replace H : ek F a1 y53 y54 = some (r4, r5) := H
  unfold ek at H
  refine af <| af ?_;obtain ⟨x57, e58, H⟩ := ft H;refine aa ?_;show AR _ _ _ _ _ [0, 1, 2, 3, 4, 5] _;refine zm rfl <| zm rfl <| bb (l := []) 169 (B (y53 && (!x57))) (fun K => ?_) ?_
  ·rcases ak y53 with h56 | h56
   ·refine zM h56 rfl <| zT h56 rfl (aD rfl xT rfl (nT F a1 x57 (e58 h56)) ?_);refine zU h56 rfl (cx rfl) <| zS rfl (aG (av := .v _) rfl h56 rfl) ?_;exact K _ 3 _ (aA (cz h56)) rfl rfl
   ·refine zF h56 rfl <| zF h56 rfl <| zF h56 rfl <| zS rfl (aE (av := .v _) rfl h56 rfl) ?_;exact K _ 3 _ (aA (cA h56)) rfl rfl
  refine ag <| az rfl (fun c59 => ?_) (fun c59 => ?_)
  ·replace H := aZ c59 H;refine af <| aa ?_;show AR _ _ _ _ _ [0, 1, 2] _;refine zS rfl (bw (a := .v _) bB rfl rfl) <| za rfl <| zS rfl (aB (av := .ifc _ _) rfl) <| ag <| aL ?_;obtain ⟨rfl, rfl⟩ := dh H;exact And.intro rfl (Exists.intro _ (Exists.intro _ ⟨be rfl (.refl _) (.refl _), aI [] rfl, rfl, rfl⟩))
  ·replace H := ba c59 H;refine aC <| af <| aa ?_;show AR _ _ _ _ _ [0, 1, 2] _;refine zm rfl <| za rfl <| za rfl <| ag <| aL ?_;obtain ⟨rfl, rfl⟩ := dh H;exact And.intro rfl (Exists.intro _ (Exists.intro _ ⟨be rfl (.refl _) (.refl _), aI [] rfl, rfl, rfl⟩))
abbrev _root_.Go.Av.eQ := @Tryz.underlying2
abbrev _root_.Go.Av.cR := @Tryz.underlying72
set_option maxRecDepth 100000 in
set_option maxHeartbeats 1000000 in
theorem rk (F : Nat) (a1 : List UInt8) (a2 : Int) (a3 : Int) (r4 : Int) (r5 : Int) (H : iz F a1 a2 a3 = some (r4, r5)) : ACalls Tryz.prog 135 [S a1, i64 a2, i64 a3] [] (Ret (.tup [i64 r4, eg 167 .i64 r5]) []) := by
 unfold iz at H
 refine ax Tryz.func135 rfl rfl ?_;show AW _ _ 73 _ _ _;refine af <| aa ?_;show AR _ _ _ _ _ [0, 1] _;refine za rfl <| za rfl <| ag <| af <| af <| aa ?_;show AR _ _ _ _ _ [0, 1] _;refine zm rfl <| zS rfl (eU rfl rfl) <| ag <| az rfl (fun c6 => ?_) (fun c6 => ?_)
 ·replace H := aZ c6 H;refine af <| aa ?_;show AR _ _ _ _ _ [0, 1, 2] _;refine zS rfl (bw (a := .v _) bB rfl rfl) <| za rfl <| zS rfl (aB (av := .ifc _ _) rfl) <| ag <| aL ?_;obtain ⟨rfl, rfl⟩ := dh H;exact And.intro rfl (Exists.intro _ (Exists.intro _ ⟨be rfl (.refl _) (.refl _), aI [] rfl, rfl, rfl⟩))
 ·replace H := ba c6 H;refine aC <| af <| aa ?_;show AR _ _ _ _ _ [0] _;refine za rfl <| ag <| bk (X := (List UInt8) × Bool) (fun (y18, y19) => ⟨[(0, S y18), (1, i64 a2), (2, i64 a3), (8, B y19)], [], []⟩) (fun (y18, y19) => dX F a2 a3 y18 y19 = some (r4, r5)) ?_ ?_
  ·refine af ?_;obtain ⟨g7, H⟩ := ay H;obtain ⟨x8, e9, H⟩ := bg H;refine aa ?_;show AR _ _ _ _ _ [0, 1] _;refine zm rfl <| zS rfl (bj ab rfl rfl g7 e9) <| ag <| aO <| af <| aa ?_;show AR _ _ _ _ _ [0, 1] _;refine zS rfl (fw (a := x8) (b := 43) rfl rfl) <| za rfl <| ag <| az rfl (fun c10 => ?_) (fun c10 => ?_)
   ·replace H := aZ c10 H;obtain ⟨g11, H⟩ := ay H;obtain ⟨x12, e13, H⟩ := bg H;refine aa ?_;show AR _ _ _ _ _ [0, 1, 2] _;refine zm rfl <| zS rfl (cI ab rfl rfl g11 e13) <| za rfl <| ag ?_;exact Exists.intro (x12, false) ⟨H, aP [] (.cons (.refl _) (.cons (.refl _) (.cons (.refl _) (.cons (.refl _) (.nil _))))) rfl⟩
   ·replace H := ba c10 H;refine af <| aa ?_;show AR _ _ _ _ _ [0, 1] _;refine zS rfl (fw (a := x8) (b := 45) rfl rfl) <| za rfl <| ag <| az rfl (fun c14 => ?_) (fun c14 => ?_)
    ·replace H := aZ c14 H;refine af ?_;obtain ⟨g15, H⟩ := ay H;obtain ⟨x16, e17, H⟩ := bg H;refine aa ?_;show AR _ _ _ _ _ [0, 1, 2] _;refine zm rfl <| zS rfl (cI ab rfl rfl g15 e17) <| za rfl <| ag <| aa ?_;show AR _ _ _ _ _ [0] _;refine za rfl <| ag ?_;exact Exists.intro (x16, true) ⟨H, aP [] (.cons (.refl _) (.cons (.refl _) (.cons (.refl _) (.cons (.refl _) (.nil _))))) rfl⟩
    ·replace H := ba c14 H;refine aC ?_;exact Exists.intro (a1, false) ⟨H, aP [] (.cons (.refl _) (.cons (.refl _) (.cons (.refl _) (.cons (.refl _) (.nil _))))) rfl⟩
  rintro ⟨y18, y19⟩ H;replace H : dX F a2 a3 y18 y19 = some (r4, r5) := H
  unfold dX at H
  refine af <| aa ?_;show AR _ _ _ _ _ [0] _;refine za rfl <| ag <| af ?_;obtain ⟨x21, x22, e23, H⟩ := cZ H;refine aa ?_;show AR _ _ _ _ _ [0, 1, 2, 3, 4, 5, 6, 7, 8] _;refine zm rfl <| zm rfl <| zm rfl <| aq rfl rfl (aD rfl sy rfl (lU F y18 a2 a3 x21 x22 e23) ?_);refine zS rfl (aj (av := .tup _) rfl) <| zS rfl (aF (av := .v _) rfl rfl) <| zS rfl (aF (av := eg _ _ _) rfl rfl) <| za rfl <| zS rfl (aB (av := eg _ _ _) rfl) <| ag <| af <| af <| aa ?_;show AR _ _ _ _ _ [0, 1, 2, 3, 4, 5, 6] _;refine zS rfl (aj (av := eg _ _ _) rfl) <| zS rfl (lE cR rfl rfl) <| zm rfl <| bb (l := []) 38 (B ((!decide (x22 = 0)) && (!decide (x22 = 1)))) (fun K => ?_) ?_
  ·rcases ak (!decide (x22 = 0)) with h24 | h24
   ·refine zU h24 rfl (aj (av := eg _ _ _) rfl) <| zU h24 rfl (bw (a := .v _) bB rfl rfl) <| zU h24 rfl (se (m := 1) cR rfl bB (by kernel_rfl) (by decide) rfl rfl) <| zS rfl (aG (av := .v _) rfl h24 rfl) ?_;exact K _ 3 _ (aA (cz h24)) rfl rfl
   ·refine zF h24 rfl <| zF h24 rfl <| zF h24 rfl <| zS rfl (aE (av := .v _) rfl h24 rfl) ?_;exact K _ 3 _ (aA (cA h24)) rfl rfl
  refine ag <| az rfl (fun c25 => ?_) (fun c25 => ?_)
  ·replace H := aZ c25 H;refine af <| aa ?_;show AR _ _ _ _ _ [0, 1, 2] _;refine zS rfl (aj (av := eg _ _ _) rfl) <| za rfl <| zS rfl (aB (av := eg _ _ _) rfl) <| ag <| aL ?_;obtain ⟨rfl, rfl⟩ := dh H;exact And.intro rfl (Exists.intro _ (Exists.intro _ ⟨be rfl (.refl _) (.refl _), aI [] rfl, rfl, rfl⟩))
  ·replace H := ba c25 H;refine aC <| bk (X := Unit) (fun _ => ⟨[(2, i64 64), (8, B y19), (9, .v (.int .u64 x21))], [], []⟩) (fun _ => fx y19 x21 = some (r4, r5)) ?_ ?_
   ·refine af <| aa ?_;show AR _ _ _ _ _ [0, 1] _;refine zm rfl <| zS rfl (cJ rfl rfl) <| ag ?_;obtain ⟨g27, H⟩ := ay H;refine az rfl (fun _ => ?_) (fun hx => bS g27 hx);refine aa ?_;show AR _ _ _ _ _ [0] _;refine za rfl <| ag ?_;exact Exists.intro () ⟨H, aP [] (.cons (.refl _) (.cons (.refl _) (.cons (.refl _) (.nil _)))) rfl⟩
   rintro _ H;replace H : fx y19 x21 = some (r4, r5) := H
   unfold fx at H
   refine af ?_;obtain ⟨g29, H⟩ := ay H;refine aa ?_;show AR _ _ _ _ _ [0, 1, 2, 3, 4] _;refine zm rfl <| zS rfl (bo (av' := i64 63) (eL rfl rfl (by decide)) rfl) <| zS rfl (cw (by kernel_rfl) ed rfl) <| zS rfl (oE rfl rfl (of_decide_eq_true g29)) <| za rfl <| ag <| af <| af <| aa ?_;show AR _ _ _ _ _ [0, 1, 2, 3, 4, 5, 6] _;refine zm rfl <| zS rfl (cx rfl) <| zm rfl <| bb (l := []) 52 (B ((!y19) && (decide (IntKind.u64.wrap (1 * 2 ^ min (Int.toNat (IntKind.u64.wrap 63)) IntKind.u64.bits) ≤ x21)))) (fun K => ?_) ?_
   ·rcases ak (!y19) with h30 | h30
    ·refine zM h30 rfl <| zM h30 rfl <| zU h30 rfl (dz rfl rfl) <| zS rfl (aG (av := .v _) rfl h30 rfl) ?_;exact K _ 3 _ (aA (cz h30)) rfl rfl
    ·refine zF h30 rfl <| zF h30 rfl <| zF h30 rfl <| zS rfl (aE (av := .v _) rfl h30 rfl) ?_;exact K _ 3 _ (aA (cA h30)) rfl rfl
   refine ag <| az rfl (fun c31 => ?_) (fun c31 => ?_)
   ·replace H := aZ c31 H;refine af ?_;obtain ⟨g32, H⟩ := ay H;refine aa ?_;show AR _ _ _ _ _ [0, 1, 2, 3, 4, 5] _;refine zm rfl <| zS rfl (mx rfl rfl) <| zS rfl (pf (by kernel_rfl) eQ rfl g32) <| zS rfl (bw (a := .v _) bB rfl rfl) <| za rfl <| zS rfl (aB (av := .ifc _ _) rfl) <| ag <| aL ?_;obtain ⟨rfl, rfl⟩ := dh H;exact And.intro rfl (Exists.intro _ (Exists.intro _ ⟨be rfl (.refl _) (.refl _), aI [] rfl, rfl, rfl⟩))
   ·replace H := ba c31 H;refine aC <| af <| af <| aa ?_;show AR _ _ _ _ _ [0, 1, 2, 3, 4, 5] _;refine zm rfl <| zm rfl <| bb (l := []) 62 (B (y19 && (decide (IntKind.u64.wrap (1 * 2 ^ min (Int.toNat (IntKind.u64.wrap 63)) IntKind.u64.bits) < x21)))) (fun K => ?_) ?_
    ·rcases ak y19 with h33 | h33
     ·refine zM h33 rfl <| zM h33 rfl <| zU h33 rfl (cS rfl rfl) <| zS rfl (aG (av := .v _) rfl h33 rfl) ?_;exact K _ 3 _ (aA (cz h33)) rfl rfl
     ·refine zF h33 rfl <| zF h33 rfl <| zF h33 rfl <| zS rfl (aE (av := .v _) rfl h33 rfl) ?_;exact K _ 3 _ (aA (cA h33)) rfl rfl
    refine ag <| az rfl (fun c34 => ?_) (fun c34 => ?_)
    ·replace H := aZ c34 H;refine af ?_;obtain ⟨g35, H⟩ := ay H;obtain ⟨g36, H⟩ := ay H;refine aa ?_;show AR _ _ _ _ _ [0, 1, 2, 3, 4, 5] _;refine zm rfl <| zS rfl (pf (by kernel_rfl) eQ rfl g35) <| zS rfl (g_neg rfl g36) <| zS rfl (bw (a := .v _) bB rfl rfl) <| za rfl <| zS rfl (aB (av := .ifc _ _) rfl) <| ag <| aL ?_;obtain ⟨rfl, rfl⟩ := dh H;exact And.intro rfl (Exists.intro _ (Exists.intro _ ⟨be rfl (.refl _) (.refl _), aI [] rfl, rfl, rfl⟩))
    ·replace H := ba c34 H;refine aC <| af ?_;obtain ⟨g37, H⟩ := ay H;refine aa ?_;show AR _ _ _ _ _ [0, 1, 2] _;refine zm rfl <| zS rfl (pf (by kernel_rfl) eQ rfl g37) <| za rfl <| ag <| bk (X := Int) (fun y40 => ⟨[(11, i64 y40)], [], []⟩) (fun y40 => eO y40 = some (r4, r5)) ?_ ?_
     ·refine af <| aa ?_;show AR _ _ _ _ _ [0] _;refine zm rfl <| ag <| az rfl (fun c38 => ?_) (fun c38 => ?_)
      ·replace H := aZ c38 H;obtain ⟨g39, H⟩ := ay H;refine aa ?_;show AR _ _ _ _ _ [0, 1, 2] _;refine zm rfl <| zS rfl (g_neg rfl g39) <| za rfl <| ag ?_;exact Exists.intro (0 - x21) ⟨H, aP [] (.cons (.refl _) (.nil _)) rfl⟩
      ·replace H := ba c38 H;refine aC ?_;exact Exists.intro x21 ⟨H, aP [] (.cons (.refl _) (.nil _)) rfl⟩
     rintro y40 H;replace H : eO y40 = some (r4, r5) := H
     unfold eO at H
     refine af <| aa ?_;show AR _ _ _ _ _ [0, 1, 2] _;refine zm rfl <| za rfl <| za rfl <| ag <| aL ?_;obtain ⟨rfl, rfl⟩ := dh H;exact And.intro rfl (Exists.intro _ (Exists.intro _ ⟨be rfl (.refl _) (.refl _), aI [] rfl, rfl, rfl⟩))
set_option maxRecDepth 100000 in
set_option maxHeartbeats 1000000 in
theorem nh (F : Nat) (a1 : List UInt8) (a2 : Int) (a3 : Int) (r4 : Int) (r5 : Int) (H : eM F a1 a2 a3 = some (r4, r5)) : ACalls Tryz.prog 272 [S a1, i64 a2, i64 a3] [] (Ret (.tup [i64 r4, eAny 170 r5]) []) := by
 unfold eM at H
 refine ax Tryz.func272 rfl rfl ?_;show AW _ _ 25 _ _ _;refine af <| aa ?_;show AR _ _ _ _ _ [0, 1] _;refine za rfl <| za rfl <| ag <| af ?_;obtain ⟨x6, x7, e8, H⟩ := cZ H;refine aa ?_;show AR _ _ _ _ _ [0, 1, 2, 3, 4, 5, 6, 7, 8] _;refine zm rfl <| zm rfl <| zm rfl <| aq rfl rfl (aD rfl sz rfl (rk F a1 a2 a3 x6 x7 e8) ?_);refine zS rfl (aj (av := .tup _) rfl) <| zS rfl (aF (av := .v _) rfl rfl) <| zS rfl (aF (av := eg _ _ _) rfl rfl) <| za rfl <| zS rfl (aB (av := eg _ _ _) rfl) <| ag <| af <| af <| aa ?_;show AR _ _ _ _ _ [0, 1] _;refine zS rfl (aj (av := eg _ _ _) rfl) <| zS rfl (lE cR rfl rfl) <| ag <| az rfl (fun c9 => ?_) (fun c9 => ?_)
 ·replace H := aZ c9 H;refine af ?_;obtain ⟨g10, H⟩ := ay H;obtain ⟨g11, H⟩ := ay H;refine aa ?_;show AR _ _ _ _ _ [0, 1, 2, 3, 4, 5, 6, 7] _;refine zm rfl <| zm rfl <| zm rfl <| zm rfl <| zS rfl (aj (av := eg _ _ _) rfl) <| aq rfl rfl (aD rfl vh rfl (pB _ _ _ _ x7 (gW g10) (of_decide_eq_true g11)) ?_);refine za rfl <| zS rfl (aB (av := .ifc _ _) rfl) <| ag <| aL ?_;obtain ⟨rfl, rfl⟩ := dh H;exact And.intro rfl (Exists.intro _ (Exists.intro _ ⟨be rfl (.refl _) (.ifc _ _), aI [] rfl, rfl, rfl⟩))
 ·replace H := ba c9 H;refine aC <| af <| aa ?_;show AR _ _ _ _ _ [0, 1, 2] _;refine zm rfl <| za rfl <| za rfl <| ag <| aL ?_;obtain ⟨rfl, rfl⟩ := dh H;exact And.intro rfl (Exists.intro _ (Exists.intro _ ⟨be rfl (.refl _) (.refl _), aI [] rfl, rfl, rfl⟩))
set_option maxRecDepth 100000 in
set_option maxHeartbeats 1000000 in
theorem qh (F : Nat) (a1 : List UInt8) (a2 : Int) (a3 : Int) (r4 : Int) (r5 : Int) (H : gH F a1 a2 a3 = some (r4, r5)) : ACalls Tryz.prog 135 [S a1, i64 a2, i64 a3] [] (Ret (.tup [i64 r4, eg 167 .i64 r5]) []) := by
 unfold gH at H
 refine ax Tryz.func135 rfl rfl ?_;show AW _ _ 73 _ _ _;refine af <| aa ?_;show AR _ _ _ _ _ [0, 1] _;refine za rfl <| za rfl <| ag <| af <| af <| aa ?_;show AR _ _ _ _ _ [0, 1] _;refine zm rfl <| zS rfl (eU rfl rfl) <| ag <| az rfl (fun c6 => ?_) (fun c6 => ?_)
 ·replace H := aZ c6 H;refine af <| aa ?_;show AR _ _ _ _ _ [0, 1, 2] _;refine zS rfl (bw (a := .v _) bB rfl rfl) <| za rfl <| zS rfl (aB (av := .ifc _ _) rfl) <| ag <| aL ?_;obtain ⟨rfl, rfl⟩ := dh H;exact And.intro rfl (Exists.intro _ (Exists.intro _ ⟨be rfl (.refl _) (.refl _), aI [] rfl, rfl, rfl⟩))
 ·replace H := ba c6 H;refine aC <| af <| aa ?_;show AR _ _ _ _ _ [0] _;refine za rfl <| ag <| bk (X := (List UInt8) × Bool) (fun (y18, y19) => ⟨[(0, S y18), (1, i64 a2), (2, i64 a3), (8, B y19)], [], []⟩) (fun (y18, y19) => dm F a2 a3 y18 y19 = some (r4, r5)) ?_ ?_
  ·refine af ?_;obtain ⟨g7, H⟩ := ay H;obtain ⟨x8, e9, H⟩ := bg H;refine aa ?_;show AR _ _ _ _ _ [0, 1] _;refine zm rfl <| zS rfl (bj ab rfl rfl g7 e9) <| ag <| aO <| af <| aa ?_;show AR _ _ _ _ _ [0, 1] _;refine zS rfl (fw (a := x8) (b := 43) rfl rfl) <| za rfl <| ag <| az rfl (fun c10 => ?_) (fun c10 => ?_)
   ·replace H := aZ c10 H;obtain ⟨g11, H⟩ := ay H;obtain ⟨x12, e13, H⟩ := bg H;refine aa ?_;show AR _ _ _ _ _ [0, 1, 2] _;refine zm rfl <| zS rfl (cI ab rfl rfl g11 e13) <| za rfl <| ag ?_;exact Exists.intro (x12, false) ⟨H, aP [] (.cons (.refl _) (.cons (.refl _) (.cons (.refl _) (.cons (.refl _) (.nil _))))) rfl⟩
   ·replace H := ba c10 H;refine af <| aa ?_;show AR _ _ _ _ _ [0, 1] _;refine zS rfl (fw (a := x8) (b := 45) rfl rfl) <| za rfl <| ag <| az rfl (fun c14 => ?_) (fun c14 => ?_)
    ·replace H := aZ c14 H;refine af ?_;obtain ⟨g15, H⟩ := ay H;obtain ⟨x16, e17, H⟩ := bg H;refine aa ?_;show AR _ _ _ _ _ [0, 1, 2] _;refine zm rfl <| zS rfl (cI ab rfl rfl g15 e17) <| za rfl <| ag <| aa ?_;show AR _ _ _ _ _ [0] _;refine za rfl <| ag ?_;exact Exists.intro (x16, true) ⟨H, aP [] (.cons (.refl _) (.cons (.refl _) (.cons (.refl _) (.cons (.refl _) (.nil _))))) rfl⟩
    ·replace H := ba c14 H;refine aC ?_;exact Exists.intro (a1, false) ⟨H, aP [] (.cons (.refl _) (.cons (.refl _) (.cons (.refl _) (.cons (.refl _) (.nil _))))) rfl⟩
  rintro ⟨y18, y19⟩ H;replace H : dm F a2 a3 y18 y19 = some (r4, r5) := H
  unfold dm at H
  refine af <| aa ?_;show AR _ _ _ _ _ [0] _;refine za rfl <| ag <| af ?_;obtain ⟨x21, x22, e23, H⟩ := cZ H;refine aa ?_;show AR _ _ _ _ _ [0, 1, 2, 3, 4, 5, 6, 7, 8] _;refine zm rfl <| zm rfl <| zm rfl <| aq rfl rfl (aD rfl sy rfl (lU F y18 a2 a3 x21 x22 e23) ?_);refine zS rfl (aj (av := .tup _) rfl) <| zS rfl (aF (av := .v _) rfl rfl) <| zS rfl (aF (av := eg _ _ _) rfl rfl) <| za rfl <| zS rfl (aB (av := eg _ _ _) rfl) <| ag <| af <| af <| aa ?_;show AR _ _ _ _ _ [0, 1, 2, 3, 4, 5, 6] _;refine zS rfl (aj (av := eg _ _ _) rfl) <| zS rfl (lE cR rfl rfl) <| zm rfl <| bb (l := []) 38 (B ((!decide (x22 = 0)) && (!decide (x22 = 1)))) (fun K => ?_) ?_
  ·rcases ak (!decide (x22 = 0)) with h24 | h24
   ·refine zU h24 rfl (aj (av := eg _ _ _) rfl) <| zU h24 rfl (bw (a := .v _) bB rfl rfl) <| zU h24 rfl (se (m := 1) cR rfl bB (by kernel_rfl) (by decide) rfl rfl) <| zS rfl (aG (av := .v _) rfl h24 rfl) ?_;exact K _ 3 _ (aA (cz h24)) rfl rfl
   ·refine zF h24 rfl <| zF h24 rfl <| zF h24 rfl <| zS rfl (aE (av := .v _) rfl h24 rfl) ?_;exact K _ 3 _ (aA (cA h24)) rfl rfl
  refine ag <| az rfl (fun c25 => ?_) (fun c25 => ?_)
  ·replace H := aZ c25 H;refine af <| aa ?_;show AR _ _ _ _ _ [0, 1, 2] _;refine zS rfl (aj (av := eg _ _ _) rfl) <| za rfl <| zS rfl (aB (av := eg _ _ _) rfl) <| ag <| aL ?_;obtain ⟨rfl, rfl⟩ := dh H;exact And.intro rfl (Exists.intro _ (Exists.intro _ ⟨be rfl (.refl _) (.refl _), aI [] rfl, rfl, rfl⟩))
  ·replace H := ba c25 H;refine aC <| bk (X := Unit) (fun _ => ⟨[(2, i64 64), (8, B y19), (9, .v (.int .u64 x21))], [], []⟩) (fun _ => el y19 x21 = some (r4, r5)) ?_ ?_
   ·refine af <| aa ?_;show AR _ _ _ _ _ [0, 1] _;refine zm rfl <| zS rfl (cJ rfl rfl) <| ag ?_;obtain ⟨g27, H⟩ := ay H;refine az rfl (fun _ => ?_) (fun hx => bS g27 hx);refine aa ?_;show AR _ _ _ _ _ [0] _;refine za rfl <| ag ?_;exact Exists.intro () ⟨H, aP [] (.cons (.refl _) (.cons (.refl _) (.cons (.refl _) (.nil _)))) rfl⟩
   rintro _ H;replace H : el y19 x21 = some (r4, r5) := H
   unfold el at H
   refine af ?_;obtain ⟨g29, H⟩ := ay H;refine aa ?_;show AR _ _ _ _ _ [0, 1, 2, 3, 4] _;refine zm rfl <| zS rfl (bo (av' := i64 63) (eL rfl rfl (by decide)) rfl) <| zS rfl (cw (by kernel_rfl) ed rfl) <| zS rfl (oE rfl rfl (of_decide_eq_true g29)) <| za rfl <| ag <| af <| af <| aa ?_;show AR _ _ _ _ _ [0, 1, 2, 3, 4, 5, 6] _;refine zm rfl <| zS rfl (cx rfl) <| zm rfl <| bb (l := []) 52 (B ((!y19) && (decide (IntKind.u64.wrap (1 * 2 ^ min (Int.toNat (IntKind.u64.wrap 63)) IntKind.u64.bits) ≤ x21)))) (fun K => ?_) ?_
   ·rcases ak (!y19) with h30 | h30
    ·refine zM h30 rfl <| zM h30 rfl <| zU h30 rfl (dz rfl rfl) <| zS rfl (aG (av := .v _) rfl h30 rfl) ?_;exact K _ 3 _ (aA (cz h30)) rfl rfl
    ·refine zF h30 rfl <| zF h30 rfl <| zF h30 rfl <| zS rfl (aE (av := .v _) rfl h30 rfl) ?_;exact K _ 3 _ (aA (cA h30)) rfl rfl
   refine ag <| az rfl (fun c31 => ?_) (fun c31 => ?_)
   ·replace H := aZ c31 H;refine af <| aa ?_;show AR _ _ _ _ _ [0, 1, 2, 3, 4, 5] _;refine zm rfl <| zS rfl (mx rfl rfl) <| zS rfl (cw (by kernel_rfl) eQ rfl) <| zS rfl (bw (a := .v _) bB rfl rfl) <| za rfl <| zS rfl (aB (av := .ifc _ _) rfl) <| ag <| aL ?_;obtain ⟨rfl, rfl⟩ := dh H;exact And.intro rfl (Exists.intro _ (Exists.intro _ ⟨be rfl (.refl _) (.refl _), aI [] rfl, rfl, rfl⟩))
   ·replace H := ba c31 H;refine aC <| af <| af <| aa ?_;show AR _ _ _ _ _ [0, 1, 2, 3, 4, 5] _;refine zm rfl <| zm rfl <| bb (l := []) 62 (B (y19 && (decide (IntKind.u64.wrap (1 * 2 ^ min (Int.toNat (IntKind.u64.wrap 63)) IntKind.u64.bits) < x21)))) (fun K => ?_) ?_
    ·rcases ak y19 with h32 | h32
     ·refine zM h32 rfl <| zM h32 rfl <| zU h32 rfl (cS rfl rfl) <| zS rfl (aG (av := .v _) rfl h32 rfl) ?_;exact K _ 3 _ (aA (cz h32)) rfl rfl
     ·refine zF h32 rfl <| zF h32 rfl <| zF h32 rfl <| zS rfl (aE (av := .v _) rfl h32 rfl) ?_;exact K _ 3 _ (aA (cA h32)) rfl rfl
    refine ag <| az rfl (fun c33 => ?_) (fun c33 => ?_)
    ·replace H := aZ c33 H;refine af <| aa ?_;show AR _ _ _ _ _ [0, 1, 2, 3, 4, 5] _;refine zm rfl <| zS rfl (cw (by kernel_rfl) eQ rfl) <| zS rfl (qW rfl) <| zS rfl (bw (a := .v _) bB rfl rfl) <| za rfl <| zS rfl (aB (av := .ifc _ _) rfl) <| ag <| aL ?_;obtain ⟨rfl, rfl⟩ := dh H;exact And.intro rfl (Exists.intro _ (Exists.intro _ ⟨be rfl (.refl _) (.refl _), aI [] rfl, rfl, rfl⟩))
    ·replace H := ba c33 H;refine aC <| af <| aa ?_;show AR _ _ _ _ _ [0, 1, 2] _;refine zm rfl <| zS rfl (cw (by kernel_rfl) eQ rfl) <| za rfl <| ag <| bk (X := Int) (fun y35 => ⟨[(11, i64 y35)], [], []⟩) (fun y35 => em y35 = some (r4, r5)) ?_ ?_
     ·refine af <| aa ?_;show AR _ _ _ _ _ [0] _;refine zm rfl <| ag <| az rfl (fun c34 => ?_) (fun c34 => ?_)
      ·replace H := aZ c34 H;refine aa ?_;show AR _ _ _ _ _ [0, 1, 2] _;refine zm rfl <| zS rfl (qW rfl) <| za rfl <| ag ?_;exact Exists.intro (IntKind.i64.wrap (0 - (IntKind.i64.wrap x21))) ⟨H, aP [] (.cons (.refl _) (.nil _)) rfl⟩
      ·replace H := ba c34 H;refine aC ?_;exact Exists.intro (IntKind.i64.wrap x21) ⟨H, aP [] (.cons (.refl _) (.nil _)) rfl⟩
     rintro y35 H;replace H : em y35 = some (r4, r5) := H
     unfold em at H
     refine af <| aa ?_;show AR _ _ _ _ _ [0, 1, 2] _;refine zm rfl <| za rfl <| za rfl <| ag <| aL ?_;obtain ⟨rfl, rfl⟩ := dh H;exact And.intro rfl (Exists.intro _ (Exists.intro _ ⟨be rfl (.refl _) (.refl _), aI [] rfl, rfl, rfl⟩))
abbrev _root_.Go.Av.bf := @Tryz.underlying3
set_option maxRecDepth 100000 in
set_option maxHeartbeats 1000000 in
theorem wX (F : Nat) (a1 : List UInt8) (r2 : Int) (r3 : Int) (H : tf F a1 = some (r2, r3)) : ACalls Tryz.prog 87 [S a1] [] (Ret (.tup [i64 r2, eg 167 .i64 r3]) []) := by
 unfold tf at H
 refine ax Tryz.func87 rfl rfl ?_;show AW _ _ 77 _ _ _;refine af <| aa ?_;show AR _ _ _ _ _ [0, 1] _;refine za rfl <| za rfl <| ag <| af <| aa ?_;show AR _ _ _ _ _ [0, 1, 2] _;refine zm rfl <| zS rfl (aU ab rfl) <| za rfl <| ag <| bk (X := Unit) (fun _ => ⟨[(0, S a1)], [], []⟩) (fun _ => lB F a1 = some (r2, r3)) ?_ ?_
 ·refine af <| aa ?_;show AR _ _ _ _ _ [0, 1, 2, 3, 4, 5, 6, 7, 8, 9, 10, 11, 12, 13, 14, 15, 16, 17] _;refine zm rfl <| zF rfl rfl <| zF rfl rfl <| zF rfl rfl <| gU rfl rfl rfl rfl rfl <| gU rfl rfl rfl rfl rfl <| zF rfl rfl <| zS rfl (aE (av := .v _) rfl rfl rfl) <| zm rfl <| zM rfl rfl <| zM rfl rfl <| zU rfl rfl (bC rfl rfl) <| zM rfl rfl <| bb (l := [16, 17]) 28 (B ((decide (0 < (a1.length : Int))) && (decide ((a1.length : Int) < 19)))) (fun K => ?_) ?_
  ·rcases ak (decide (0 < (a1.length : Int))) with h4 | h4
   ·refine zM h4 rfl <| zU h4 rfl (bC rfl rfl) <| zU rfl rfl (aG (av := .v _) rfl h4 rfl) ?_;exact K _ 2 _ (aA (cz h4)) rfl rfl
   ·refine zF h4 rfl <| zF h4 rfl <| zU rfl rfl (aE (av := .v _) rfl h4 rfl) ?_;exact K _ 2 _ (aA (cA h4)) rfl rfl
  refine zU rfl rfl (aG (av := .v _) rfl rfl rfl) <| zS rfl (aE (av := .v _) rfl rfl rfl) <| ag <| az rfl (fun c5 => ?_) (fun c5 => ?_)
  ·replace H := aZ c5 H;refine af <| aa ?_;show AR _ _ _ _ _ [0, 1] _;refine zm rfl <| za rfl <| ag <| bk (X := (List UInt8)) (fun y18 => ⟨[(0, S y18), (5, S a1)], [], []⟩) (fun y18 => jS F a1 y18 = some (r2, r3)) ?_ ?_
   ·refine af ?_;obtain ⟨g6, H⟩ := ay H;obtain ⟨x7, e8, H⟩ := bg H;obtain ⟨g10, H⟩ := dq H;obtain ⟨x11, e12, H⟩ := bg H;refine aa ?_;show AR _ _ _ _ _ [0, 1, 2, 3, 4, 5, 6, 7] _;refine zm rfl <| zS rfl (bj ab rfl rfl g6 e8) <| zS rfl (fw (a := x7) (b := 45) rfl rfl) <| zm rfl <| bb (l := []) 39 (B ((decide (x7 = 45)) || (decide (x11 = 43)))) (fun K => ?_) ?_
    ·rcases ak (decide (x7 = 45)) with h9 | h9
     ·refine zF h9 rfl <| zF h9 rfl <| zF h9 rfl <| zS rfl (aG (av := .v _) rfl h9 rfl) ?_;exact K _ 3 _ (aA (fT h9)) rfl rfl
     ·refine zM h9 rfl <| zU h9 rfl (bj ab rfl rfl (g10 (nf h9)) e12) <| zU h9 rfl (fw (a := x11) (b := 43) rfl rfl) <| zS rfl (aE (av := .v _) rfl h9 rfl) ?_;exact K _ 3 _ (aA (fU h9)) rfl rfl
    refine ag <| az rfl (fun c13 => ?_) (fun c13 => ?_)
    ·replace H := aZ c13 H;refine af ?_;obtain ⟨g14, H⟩ := ay H;obtain ⟨x15, e16, H⟩ := bg H;refine aa ?_;show AR _ _ _ _ _ [0, 1, 2] _;refine zm rfl <| zS rfl (cI ab rfl rfl g14 e16) <| za rfl <| ag <| af <| aa ?_;show AR _ _ _ _ _ [0, 1, 2] _;refine zm rfl <| zS rfl (aU ab rfl) <| zS rfl (bC rfl rfl) <| ag <| az rfl (fun c17 => ?_) (fun c17 => ?_)
     ·replace H := aZ c17 H;refine af <| aa ?_;show AR _ _ _ _ _ [0, 1, 2] _;refine zS rfl (bw (a := .v _) bB rfl rfl) <| za rfl <| zS rfl (aB (av := .ifc _ _) rfl) <| ag <| aL ?_;obtain ⟨rfl, rfl⟩ := dh H;exact And.intro rfl (Exists.intro _ (Exists.intro _ ⟨be rfl (.refl _) (.refl _), aI [] rfl, rfl, rfl⟩))
     ·replace H := ba c17 H;refine aC ?_;exact Exists.intro x15 ⟨H, aP [] (.cons (.refl _) (.cons (.refl _) (.nil _))) rfl⟩
    ·replace H := ba c13 H;refine aC ?_;exact Exists.intro a1 ⟨H, aP [] (.cons (.refl _) (.cons (.refl _) (.nil _))) rfl⟩
   rintro y18 H;replace H : jS F a1 y18 = some (r2, r3) := H
   unfold jS at H
   refine af <| aa ?_;show AR _ _ _ _ _ [0] _;refine za rfl <| ag <| bk (X := Int) (fun y34 => ⟨[(5, S a1), (6, i64 y34)], [], []⟩) (fun y34 => lA a1 y34 = some (r2, r3)) ?_ ?_
   ·refine af ?_;obtain ⟨g20, H⟩ := ay H;refine aa ?_;show AR _ _ _ _ _ [0, 1, 2, 3] _;refine zm rfl <| zX rfl (cy (bytes := 1) ab ac aY rfl g20) ?_;rintro _ _ ⟨t21, rfl, rfl⟩;refine zS rfl (aQ ac rfl) <| zm rfl <| ag <| aO <| cl (X := Nat × Int × Int) (fun (n25, y22, y23) => ⟨[(5, S a1), (6, i64 y22), (47, slE Enc.byte y18 (some t21)), (48, i64 (y18.length : Int)), (49, i64 y23)], [], [.tok t21 5]⟩) (fun (n25, y22, y23) => nx a1 y18 n25 (y22, y23) = some (r2, r3)) (fun (n25, y22, y23) => n25) (F, 0, 0) H (aP [0] (.cons (.refl _) (.cons (.refl _) (.cons (.refl _) (.cons (.refl _) (.cons (.refl _) (.nil _)))))) rfl) ?_;rintro ⟨n25, y22, y23⟩ H;obtain ⟨n25, rfl, H⟩ := cO H;replace H : ny a1 y18 (nx a1 y18 n25) y22 y23 = some (r2, r3) := H
    unfold ny at H
    refine af <| aa ?_;show AR _ _ _ _ _ [0] _;refine zS rfl (bC rfl rfl) <| ag <| af <| az rfl (fun c26 => ?_) (fun c26 => ?_)
    ·replace H := aZ c26 H;refine aC <| af <| aO <| af ?_;obtain ⟨g27, H⟩ := ay H;obtain ⟨x28, e29, H⟩ := bg H;refine aa ?_;show AR _ _ _ _ _ [0, 1, 2] _;refine zS rfl (cn (E := Enc.byte) ac (by kernel_rfl) rfl rfl g27 e29) <| zS rfl (aJ aY rfl rfl) <| za rfl <| ag <| af <| aa ?_;show AR _ _ _ _ _ [0, 1, 2] _;refine zm rfl <| zS rfl (tA (a := x28) (b := 48) rfl rfl) <| za rfl <| ag <| af <| af <| aa ?_;show AR _ _ _ _ _ [0, 1] _;refine zm rfl <| zS rfl (cS rfl rfl) <| ag <| az rfl (fun c30 => ?_) (fun c30 => ?_)
     ·replace H := aZ c30 H;refine af <| aa ?_;show AR _ _ _ _ _ [0, 1, 2] _;refine zS rfl (bw (a := .v _) bB rfl rfl) <| za rfl <| zS rfl (aB (av := .ifc _ _) rfl) <| ag <| aL ?_;obtain ⟨rfl, rfl⟩ := dh H;exact And.intro rfl (Exists.intro _ (Exists.intro _ ⟨be rfl (.refl _) (.refl _), aI [] rfl, rfl, rfl⟩))
     ·replace H := ba c30 H;refine aC ?_;obtain ⟨g31, H⟩ := ay H;obtain ⟨g32, H⟩ := ay H;refine aa ?_;show AR _ _ _ _ _ [0, 1, 2, 3, 4, 5] _;refine zm rfl <| zS rfl (kf rfl rfl g31) <| zm rfl <| zS rfl (ue (c := x28 - 48) (by kernel_rfl) bf rfl) <| zS rfl (bu rfl rfl g32) <| za rfl <| ag ?_;obtain ⟨g33, H⟩ := ay H;refine aa ?_;show AR _ _ _ _ _ [0, 1] _;refine zS rfl (bu rfl rfl g33) <| zm rfl <| ag ?_;exact Exists.intro (n25, (y22 * 10) + ((x28 - 48).toNat : Int), y23 + 1) ⟨H, Nat.lt_succ_self _, aP [0] (.cons (.refl _) (.cons (.refl _) (.cons (.refl _) (.cons (.refl _) (.cons (.refl _) (.nil _)))))) rfl⟩
    ·replace H := ba c26 H;refine bZ ?_;exact Exists.intro y22 ⟨H, aP [] (.cons (.refl _) (.cons (.refl _) (.nil _))) rfl⟩
   rintro y34 H;replace H : lA a1 y34 = some (r2, r3) := H
   unfold lA at H
   refine bk (X := Int) (fun y41 => ⟨[(6, i64 y41)], [], []⟩) (fun y41 => jT y41 = some (r2, r3)) ?_ ?_
   ·refine af ?_;obtain ⟨g36, H⟩ := ay H;obtain ⟨x37, e38, H⟩ := bg H;refine aa ?_;show AR _ _ _ _ _ [0, 1, 2] _;refine zm rfl <| zS rfl (bj ab rfl rfl g36 e38) <| zS rfl (fw (a := x37) (b := 45) rfl rfl) <| ag <| az rfl (fun c39 => ?_) (fun c39 => ?_)
    ·replace H := aZ c39 H;obtain ⟨g40, H⟩ := ay H;refine aa ?_;show AR _ _ _ _ _ [0, 1, 2] _;refine zm rfl <| zS rfl (g_neg rfl g40) <| za rfl <| ag ?_;exact Exists.intro (0 - y34) ⟨H, aP [] (.cons (.refl _) (.nil _)) rfl⟩
    ·replace H := ba c39 H;refine aC ?_;exact Exists.intro y34 ⟨H, aP [] (.cons (.refl _) (.nil _)) rfl⟩
   rintro y41 H;replace H : jT y41 = some (r2, r3) := H
   unfold jT at H
   refine af <| aa ?_;show AR _ _ _ _ _ [0, 1, 2] _;refine zm rfl <| za rfl <| za rfl <| ag <| aL ?_;obtain ⟨rfl, rfl⟩ := dh H;exact And.intro rfl (Exists.intro _ (Exists.intro _ ⟨be rfl (.refl _) (.refl _), aI [] rfl, rfl, rfl⟩))
  ·replace H := ba c5 H;refine aC ?_;exact Exists.intro () ⟨H, aP [] (.cons (.refl _) (.nil _)) rfl⟩
 rintro _ H;replace H : lB F a1 = some (r2, r3) := H
 unfold lB at H
 refine af ?_;obtain ⟨x44, x45, e46, H⟩ := cZ H;refine aa ?_;show AR _ _ _ _ _ [0, 1, 2, 3, 4, 5, 6] _;refine zm rfl <| aq rfl rfl (aD rfl sz rfl (qh F a1 10 0 x44 x45 e46) ?_);refine zS rfl (aj (av := .tup _) rfl) <| zS rfl (aF (av := .v _) rfl rfl) <| zS rfl (aF (av := eg _ _ _) rfl rfl) <| za rfl <| zS rfl (aB (av := eg _ _ _) rfl) <| ag <| af <| aa ?_;show AR _ _ _ _ _ [0, 1, 2, 3] _;refine zm rfl <| zS rfl (aj (av := eg _ _ _) rfl) <| za rfl <| zS rfl (aB (av := eg _ _ _) rfl) <| ag <| aL ?_;obtain ⟨rfl, rfl⟩ := dh H;exact And.intro rfl (Exists.intro _ (Exists.intro _ ⟨be rfl (.refl _) (.refl _), aI [] rfl, rfl, rfl⟩))
set_option maxRecDepth 100000 in
set_option maxHeartbeats 1000000 in
theorem lT (F : Nat) (a1 : List UInt8) (r2 : Int) (r3 : Int) (H : je F a1 = some (r2, r3)) : ACalls Tryz.prog 38 [S a1] [] (Ret (.tup [i64 r2, eAny 170 r3]) []) := by
 unfold je at H
 refine ax Tryz.func38 rfl rfl ?_;show AW _ _ 18 _ _ _;refine af <| aa ?_;show AR _ _ _ _ _ [0, 1] _;refine za rfl <| za rfl <| ag <| af ?_;obtain ⟨x4, x5, e6, H⟩ := cZ H;refine aa ?_;show AR _ _ _ _ _ [0, 1, 2, 3, 4, 5, 6] _;refine zm rfl <| aq rfl rfl (aD rfl en87_num rfl (wX F a1 x4 x5 e6) ?_);refine zS rfl (aj (av := .tup _) rfl) <| zS rfl (aF (av := .v _) rfl rfl) <| zS rfl (aF (av := eg _ _ _) rfl rfl) <| za rfl <| zS rfl (aB (av := eg _ _ _) rfl) <| ag <| af <| af <| aa ?_;show AR _ _ _ _ _ [0, 1] _;refine zS rfl (aj (av := eg _ _ _) rfl) <| zS rfl (lE cR rfl rfl) <| ag <| az rfl (fun c7 => ?_) (fun c7 => ?_)
 ·replace H := aZ c7 H;refine af ?_;obtain ⟨g8, H⟩ := ay H;obtain ⟨g9, H⟩ := ay H;refine aa ?_;show AR _ _ _ _ _ [0, 1, 2, 3, 4, 5] _;refine zm rfl <| zm rfl <| zS rfl (aj (av := eg _ _ _) rfl) <| aq rfl rfl (aD rfl vh rfl (pB _ _ _ _ x5 (gW g8) (of_decide_eq_true g9)) ?_);refine za rfl <| zS rfl (aB (av := .ifc _ _) rfl) <| ag <| aL ?_;obtain ⟨rfl, rfl⟩ := dh H;exact And.intro rfl (Exists.intro _ (Exists.intro _ ⟨be rfl (.refl _) (.ifc _ _), aI [] rfl, rfl, rfl⟩))
 ·replace H := ba c7 H;refine aC <| af <| aa ?_;show AR _ _ _ _ _ [0, 1, 2] _;refine zm rfl <| za rfl <| za rfl <| ag <| aL ?_;obtain ⟨rfl, rfl⟩ := dh H;exact And.intro rfl (Exists.intro _ (Exists.intro _ ⟨be rfl (.refl _) (.refl _), aI [] rfl, rfl, rfl⟩))
end Go.Proofs.YtjegcifofddgbaaGreatDoor
namespace Go.Pv
def la (F : Nat) (a1 : Int) : Option Bool :=
bif (decide (0 ≤ a1)) && (decide (a1 < 55296)) then
  some true
else
  bif (decide (57343 < a1)) && (decide (a1 ≤ 1114111)) then
    some true
  else
    some false
def lC : Option Int :=
some (-1)
def gl (a1 : List UInt8) (rec11 : Nat → Option Int) (y10 : Nat) : Option Int :=
bif decide (y10 < a1.length) then
  grd (!(decide (((pR a1 y10).1 : Int) = 65533))) <|
  rec11 (y10 + (pR a1 y10).2)
else
  lC
def jX (a1 : List UInt8) (n : Nat) : Nat → Option Int :=
  loop (fun rec x => gl a1 rec x) n
def jW : Option Int :=
some (-1)
def jY (a1 : List UInt8) (x20 : List UInt8) (rec23 : Unit → Option Int) : Option Int :=
bif decide ((x20.length : Int) - 1 < (a1.length : Int)) then
  grd (cD ((x20.length : Int) - 1) a1.length) <|
  lt (at_ a1 ((x20.length : Int) - 1)) fun x27 =>
  grd (cD ((x20.length : Int) - 1) x20.length) <|
  lt (at_ x20 ((x20.length : Int) - 1)) fun x30 =>
  grd (!decide (x27 = x30)) <|
  grd (okI (((x20.length : Int) - 1) + 1)) <|
  grd (gZ (((x20.length : Int) - 1) + 1) a1.length) <|
  lt (cB a1 (((x20.length : Int) - 1) + 1)) fun x35 =>
  grd (cD ((x20.length : Int) - 1) x20.length) <|
  lt (at_ x20 ((x20.length : Int) - 1)) fun x38 =>
  lt (Go.Lib.indexByte x35 x38) fun x40 =>
  grd (decide (x40 < 0)) <|
  some (-1)
else
  jW
def lD (a1 : List UInt8) (x20 : List UInt8) (n : Nat) : Unit → Option Int :=
  loop (fun rec x => jY a1 x20 rec) n
def lP (F : Nat) (a1 : List UInt8) (a2 : Int) : Option Int :=
bif (decide (0 ≤ a2)) && (decide (a2 < 128)) then
  lt (Go.Lib.indexByte a1 (Go.Av.toB a2)) fun x6 =>
  some x6
else
  bif decide (a2 = 65533) then
    jX a1 F 0
  else
    bnd (la F a2) fun x17 =>
    bif !x17 then
      some (-1)
    else
      lt (eI a2) fun x20 =>
      grd (okI ((x20.length : Int) - 1)) <|
      lD a1 x20 F ()
def tv (F : Nat) (a1 : Int) : Option Bool :=
some (decide (8 < a1))
def ic (F : Nat) (a1 : List UInt8) (y11 : Int) : Option Int :=
bnd (lP F a1 y11) fun x13 =>
some x13
def ka : Option Int :=
some (-1)
def kc (F : Nat) (a1 : List UInt8) (a2 : List UInt8) (rec22 : Nat → Option Int) (y21 : Nat) : Option Int :=
bif decide (y21 < a1.length) then
  bnd (lP F a2 ((pR a1 y21).1 : Int)) fun x25 =>
  bif decide (0 ≤ x25) then
    some (y21 : Int)
  else
    rec22 (y21 + (pR a1 y21).2)
else
  ka
def kb (F : Nat) (a1 : List UInt8) (a2 : List UInt8) (n : Nat) : Nat → Option Int :=
  loop (fun rec x => kc F a1 a2 rec x) n
def jZ (F : Nat) (a1 : List UInt8) (a2 : List UInt8) : Option Int :=
kb F a1 a2 F 0
def oH (F : Nat) (a1 : List UInt8) (a2 : List UInt8) : Option Int :=
bif decide (a2 = ([] : List UInt8)) then
  some (-1)
else
  bif decide ((a2.length : Int) = 1) then
    grd (cD 0 a2.length) <|
    lt (at_ a2 0) fun x7 =>
    grd (okJ (x7.toNat : Int)) <|
    bif decide (128 ≤ (x7.toNat : Int)) then
      ic F a1 65533
    else
      ic F a1 (x7.toNat : Int)
  else
    bnd (tv F (a1.length : Int)) fun x15 =>
    grd (!x15) <|
    jZ F a1 a2
def nS (F : Nat) (s chars : List UInt8) : Option Int := bif decide (8 < s.length) && decide (2 ≤ chars.length) then some (Go.Lib.indexAny s chars) else oH F s chars
def iQ (F : Nat) (a1 : List UInt8) (a2 : List UInt8) : Option Bool :=
grd (pQ a2) <|
grd (okS a1.length) <|
grd (okS a2.length) <|
bnd (nS F a1 a2) fun x7 =>
some (decide (0 ≤ x7))
end Go.Pv
