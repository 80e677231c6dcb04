/-
  Texts in one (only what ClientModel needs): StrPure, PvLib, P11Lib, P11Build, P11Join, AvLaw, P11Split, AvDefer, AvFn, AvCard, AvPan, AvArr, AvStill, AvLoop, AvFor, PvSl, AvHd, AvSl, AvBig, AvTab, AvForP, AvSync, AvCl, LibSW, PvO, NumP.
-/
import Derived.Test.YtgjkjkmmgdbcoaaGreatDoorZClientModel1
import Derived.Lib.SplitLaws
import Derived.Lib.IndexMore
import Derived.Lib.Strings
import Derived.Lib.SlTrimSet
import Derived.Lib.Atoi
import Derived.Test.YtgjkjkmmgdbcoaaGreatDoorShelf
import Derived.Below
import Derived.Recover
import Derived.ProofKit
import Derived.HandedShaped
import Derived.Shelf.Vars
import Derived.LaidLaws
import Derived.LaidMore
import Derived.Stop.Joined
import Derived.MakeChecks
import Derived.LoopNIn
import Derived.Laws.MakeOwn
import Derived.RangeFuncLeaves
import Derived.RangeFuncRecord
import Derived.Lib.FieldsP
import Derived.Laws.StructEq
import Derived.Lib.SlFresh
import Derived.Lib.SlParts
import Derived.Shelf.Bytes.SlSmallAll
import Derived.Shelf.Strings.FuncGrows
import Derived.Lib.LaidTab
import Derived.Lib.ItoaNum
import Derived.Lib.AppendIntMem
import Derived.Laws.LoneSync
import Derived.Lib.BytesEntry
import Derived.Lib.IndexLaws
import Derived.Test.YtgjkjkmmgdbcoaaGreatDoorChecked
set_option linter.unusedVariables false
set_option linter.unusedSimpArgs false
namespace Go.Av.Str
def rest (sep : List UInt8) : List (List UInt8) → List UInt8
  | [] => []
  | x :: r => sep ++ x ++ rest sep r
def join (sep : List UInt8) : List (List UInt8) → List UInt8
  | [] => []
  | x :: r => x ++ rest sep r
def total : List (List UInt8) → Nat
  | [] => 0
  | x :: r => x.length + total r
theorem total_drop (l : List (List UInt8)) (i : Nat) (h : i < l.length) : total (l.drop i) = l[i].length + total (l.drop (i + 1)) := by
  rw [bj h]; rfl
theorem rest_drop (sep : List UInt8) (l : List (List UInt8)) (i : Nat) (h : i < l.length) : rest sep (l.drop i) = sep ++ l[i] ++ rest sep (l.drop (i + 1)) := by
  rw [bj h]; rfl
theorem rest_end (sep : List UInt8) (l : List (List UInt8)) (i : Nat) (h : l.length ≤ i) : rest sep (l.drop i) = [] := by
  rw [ba h]; rfl
theorem lr (sep : List UInt8) : ∀ l, (rest sep l).length = sep.length * l.length + total l
  | [] => by simp [rest, total]
  | x :: r => by
    have := lr sep r
    simp only [rest, total, List.length_append, List.length_cons, Nat.mul_succ]; omega
theorem join_at (sep : List UInt8) (l : List (List UInt8)) (h : 0 < l.length) : join sep l = l[0] ++ rest sep (l.drop 1) := by
  cases l with
  | nil => simp at h
  | cons x r => rfl
theorem join_one (sep : List UInt8) (l : List (List UInt8)) (h : l.length = 1) (h0 : 0 < l.length) : join sep l = l[0] := by
  rw [join_at sep l h0, rest_end _ _ _ (by omega), List.append_nil]
theorem mul_bounds (a b N : Nat) (h : a * b ≤ N) (hb : 1 ≤ b) : 0 ≤ (a : Int) * ((b : Int) - 1) ∧ (a : Int) * ((b : Int) - 1) ≤ N := by
  have h1 : ((a * (b - 1) : Nat) : Int) = (a : Int) * ((b : Int) - 1) := by rw [Int.natCast_mul, Int.natCast_sub hb]; rfl
  rw [← h1]
  have h2 : a * (b - 1) ≤ a * b := Nat.mul_le_mul_left _ (by omega)
  omega
theorem quo_great (a b N : Nat) (h : a * b ≤ 1000000000) (hb : 2 ≤ b) (hb2 : b ≤ 1000000000) : ¬ (9223372036854775807 / ((b : Int) - 1) ≤ (a : Int)) := by
  intro h1
  have hp : (0 : Int) < (b : Int) - 1 := by omega
  have h2 : (9223372036854775807 : Int) < ((a : Int) + 1) * ((b : Int) - 1) := by
    have := Int.lt_ediv_add_one_mul_self 9223372036854775807 hp
    have h3 : ((9223372036854775807 / ((b : Int) - 1)) + 1) * ((b : Int) - 1) ≤ ((a : Int) + 1) * ((b : Int) - 1) := Int.mul_le_mul_of_nonneg_right (by omega) (by omega)
    omega
  have h4 := (mul_bounds a b 1000000000 h (by omega)).2
  rw [Int.add_mul, Int.one_mul] at h2
  omega
theorem lu (sep : List UInt8) (l : List (List UInt8)) : (join sep l).length ≤ sep.length * l.length + total l := by
  cases l with
  | nil => simp [join]
  | cons x r =>
    simp only [join, List.length_append, lr, List.length_cons, total]
    have : sep.length * r.length ≤ sep.length * (r.length + 1) := Nat.mul_le_mul_left _ (by omega)
    omega
theorem room (sep out : List UInt8) (l : List (List UInt8)) (i : Nat) (h : i < l.length) (h2 : out ++ rest sep (l.drop i) = join sep l) (hb : sep.length * l.length + total l ≤ 1000000000) : out.length + sep.length + l[i].length ≤ 1000000000 := by
  have h3 := congrArg List.length h2
  have h4 := lu sep l
  rw [rest_drop sep l i h] at h3
  simp only [List.length_append] at h3
  omega
theorem out_room (sep out r : List UInt8) (l : List (List UInt8)) (h2 : out ++ r = join sep l) (hb : sep.length * l.length + total l ≤ 1000000000) : out.length ≤ 1000000000 := by
  have h3 := congrArg List.length h2
  have h4 := lu sep l
  simp only [List.length_append] at h3
  omega
theorem mul_cast (a b : Nat) (hb : 1 ≤ b) : 0 + (a : Int) * ((b : Int) - 1) = ((a * (b - 1) : Nat) : Int) := by
  rw [Int.natCast_mul, Int.natCast_sub hb, Int.zero_add]; rfl
end Go.Av.Str
namespace Go.Pv
open Go.Av
def okS (n : Nat) : Bool := decide (n < 4294967281)
def oz (l : List (List UInt8)) (sep : List UInt8) : Bool := decide (sep.length * l.length + Str.total l ≤ 1000000000 ∧ l.length ≤ 1000000000)
theorem dV {n : Nat} (h : okS n = true) : n < 4294967281 := of_decide_eq_true h
theorem kG {l : List (List UInt8)} {sep : List UInt8} (h : oz l sep = true) : sep.length * l.length + Str.total l ≤ 1000000000 ∧ l.length ≤ 1000000000 := of_decide_eq_true h
section
variable {ρ : Type} {k : Option ρ}
theorem iZ {n : Nat} (h : n < 4294967281) : grd (okS n) k = k := by rw [okS, decide_eq_true h]; rfl
theorem grd_Join {l : List (List UInt8)} {sep : List UInt8} (h : sep.length * l.length + Str.total l ≤ 1000000000 ∧ l.length ≤ 1000000000) : grd (oz l sep) k = k := by rw [oz, decide_eq_true h]; rfl
end
def oJ (l : List UInt8) : Bool := l.all fun b => decide (b.toNat < 128)
theorem asciiB_s {l : List UInt8} (h : oJ l = true) : ∀ (j : Nat) b, l[j]? = some b → b.toNat < 128 := fun j b hj => of_decide_eq_true (List.all_eq_true.1 h b (List.mem_of_getElem? hj))
end Go.Pv
namespace Go.Proofs.YtgjkjkmmgdbcoaaGreatDoor
open Go.RowKit Go.Av
theorem oo (s sep : List UInt8) (hs : s.length < 4294967281) : ACalls Tryz.prog 44 [S s, S sep] [] (Ret (.tup [S (Go.Lib.cut s sep).1, S (Go.Lib.cut s sep).2.1, B (Go.Lib.cut s sep).2.2]) []) := by
  refine jD (rs := [.string ⟨(Go.Lib.cut s sep).1.toArray⟩, .string ⟨(Go.Lib.cut s sep).2.1.toArray⟩, .bool (Go.Lib.cut s sep).2.2]) rfl fun I A w vs hI hv => ?_
  obtain ⟨v1, r1, rfl, h1, hv⟩ := hv.out_cons;obtain ⟨v2, r2, rfl, h2, hv⟩ := hv.out_cons
  rw [hv.out_nil, jK h1, jK h2]
  obtain ⟨m, hm⟩ := lc hI (g := 0) (k := .i64) (r := []) rfl
  refine (Tryz.strings_Cut ⟨s.toArray⟩ ⟨sep.toArray⟩ m w (by simpa [ByteArray.size] using hs) hm).mono fun e w' ⟨he, n, hw⟩ => ⟨by simpa using he, hw ▸ Below.drewN _ _⟩
theorem mP (s : List UInt8) (c : UInt8) : ACalls Tryz.prog 51 [S s, u8 c] [] (Ret (i64 (Go.Lib.indexByte s c)) []) := by
  refine em fun I A w vs hI hv => ?_
  obtain ⟨v1, r1, rfl, h1, hv⟩ := hv.out_cons;obtain ⟨v2, r2, rfl, h2, hv⟩ := hv.out_cons
  rw [hv.out_nil, jK h1, bS h2]
  refine (Tryz.strings_IndexByte ⟨s.toArray⟩ c.toNat w).mono fun e w' ⟨he, hw⟩ => ⟨by simpa using he, hw ▸ Below.refl _ _⟩
end Go.Proofs.YtgjkjkmmgdbcoaaGreatDoor
namespace Go.Proofs.YtgjkjkmmgdbcoaaGreatDoor
open Go.RowKit Go.Av
theorem en136 : ∀ (args : Array Value) (w : World), (callFunc 136 args).run Tryz.prog w = .ok (.enter 136 args) w := fun _ _ => by kernel_rfl
theorem en126 : ∀ (args : Array Value) (w : World), (callFunc 126 args).run Tryz.prog w = .ok (.enter 126 args) w := fun _ _ => by kernel_rfl
theorem en127 : ∀ (args : Array Value) (w : World), (callFunc 127 args).run Tryz.prog w = .ok (.enter 127 args) w := fun _ _ => by kernel_rfl
theorem en125 : ∀ (args : Array Value) (w : World), (callFunc 125 args).run Tryz.prog w = .ok (.enter 125 args) w := fun _ _ => by kernel_rfl
theorem en137 : ∀ (args : Array Value) (w : World), (callFunc 137 args).run Tryz.prog w = .ok (.enter 137 args) w := fun _ _ => by kernel_rfl
abbrev _root_.Go.Av.aW := @Tryz.underlying147
set_option maxRecDepth 100000 in
set_option maxHeartbeats 1000000 in
theorem jC (o : Nat) (b : AV) :
    ACalls Tryz.prog 136 [.pt o 0] [.obj o [.v (.pointer none), b], .ty o 149] (Ret (.tup []) [.obj o [.pt o 0, b], .ty o 149]) := by
  refine aA Tryz.func136 rfl rfl ?_;show AW _ _ 20 _ _ _;refine aj <| ac ?_;show AR _ _ _ _ _ [0, 1, 2, 3, 4] _;refine ao rfl rfl ?_
  first | (refine an rfl rfl (ag (av := .pt _ _) rfl) ?_) | (refine an rfl rfl (ag (av := .cp _) rfl) ?_) | (refine an rfl rfl (ag (av := .v _) rfl) ?_)
  refine ao rfl rfl ?_
  first | (refine an rfl rfl (am rfl) ?_) | (refine an rfl rfl (bg rfl) ?_) | (refine an rfl rfl (bf rfl) ?_)
  refine ao rfl rfl <| an rfl rfl (ah (n := 0) (by kernel_rfl) rfl) <| ao rfl rfl ?_
  first | refine an rfl rfl (aI aW rfl rfl) ?_ | refine bM rfl rfl (ai (i := 0) aW rfl rfl rfl rfl) ?_ | refine bM rfl rfl (ai (i := 1) aW rfl rfl rfl rfl) ?_
  refine ao rfl rfl ?_
  first | (refine an rfl rfl (iz aW rfl rfl) ?_) | (refine an rfl rfl (jR aW rfl rfl) ?_)
  refine ak <| aG rfl (fun c1 => ?_) (fun c1 => ?_)
  · have c1p := c1; try simp only [decide_eq_true_eq, decide_eq_false_iff_not, Bool.not_eq_true', Bool.not_eq_false', Bool.not_true, Bool.not_false, Bool.not_eq_eq_eq_not] at c1p
    refine ac ?_;show AR _ _ _ _ _ [0, 1, 2, 3, 4, 5, 6, 7] _;refine ao rfl rfl ?_
    first | (refine an rfl rfl (ag (av := .pt _ _) rfl) ?_) | (refine an rfl rfl (ag (av := .cp _) rfl) ?_) | (refine an rfl rfl (ag (av := .v _) rfl) ?_)
    refine ao rfl rfl ?_
    first | (refine an rfl rfl (ag (av := .pt _ _) rfl) ?_) | (refine an rfl rfl (ag (av := .cp _) rfl) ?_) | (refine an rfl rfl (ag (av := .v _) rfl) ?_)
    refine ao rfl rfl ?_
    first | (refine bM rfl rfl (jS (i := 0) (k := 2) aW Tryz.underlying169 (by kernel_rfl) (by decide) rfl rfl ?h1) ?_; (case h1 => (simp))) | (refine bM rfl rfl (jS (i := 1) (k := 2) aW Tryz.underlying169 (by kernel_rfl) (by decide) rfl rfl ?h2) ?_; (case h2 => (simp)))
    refine ao rfl rfl <| an rfl rfl (oU (a := .pt _ _) Tryz.func143 ⟨by kernel_rfl, by kernel_rfl, by kernel_rfl, by kernel_rfl⟩ rfl) <| ao rfl rfl ?_
    first | refine bM rfl rfl (iH (i := 0) (j := 1) (k := 2) Tryz.underlying169 aW (by kernel_rfl) rfl rfl rfl (by kernel_rfl)) ?_ | refine bM rfl rfl (iH (i := 1) (j := 0) (k := 2) Tryz.underlying169 aW (by kernel_rfl) rfl rfl rfl (by kernel_rfl)) ?_
    refine ao rfl rfl ?_
    first | (refine an rfl rfl (am rfl) ?_) | (refine an rfl rfl (bg rfl) ?_) | (refine an rfl rfl (bf rfl) ?_)
    refine ao rfl rfl <| an rfl rfl (ah (n := 0) (by kernel_rfl) rfl) <| ao rfl rfl ?_
    first | (refine cJ rfl (ar (i := 0) (c := .pt _ _) (by kernel_rfl) rfl rfl rfl rfl ?h4) ?_; (case h4 => (simp))) | (refine cJ rfl (ar (i := 0) (c := .cp _) (by kernel_rfl) rfl rfl rfl rfl ?h5) ?_; (case h5 => (simp))) | (refine cJ rfl (ar (i := 0) (c := .v _) (by kernel_rfl) rfl rfl rfl rfl ?h6) ?_; (case h6 => (simp))) | (refine cJ rfl (ar (i := 1) (c := .pt _ _) (by kernel_rfl) rfl rfl rfl rfl ?h7) ?_; (case h7 => (simp))) | (refine cJ rfl (ar (i := 1) (c := .cp _) (by kernel_rfl) rfl rfl rfl rfl ?h8) ?_; (case h8 => (simp))) | (refine cJ rfl (ar (i := 1) (c := .v _) (by kernel_rfl) rfl rfl rfl rfl ?h9) ?_; (case h9 => (simp)))
    refine ak ?_
    -- END 1 (end)
    show ci _ _ _ _ .normal _
    (refine ⟨rfl, _, _, bc rfl, ?_, ⟨rfl, rfl⟩⟩; all_goals first | exact bp _ | exact cq _ | ((repeat (first | exact bp _ | exact cq _ | refine dR _ ?_ | refine dQ _ ?_)); done) | exact Wv.refl _ | exact Wv.tok _ _ _ | exact Wv.nil _)
  · exact absurd c1 (by decide)
set_option maxRecDepth 100000 in
set_option maxHeartbeats 1000000 in
theorem jB (o : Nat) (b : AV) :
    ACalls Tryz.prog 136 [.pt o 0] [.obj o [.pt o 0, b], .ty o 149] (Ret (.tup []) [.obj o [.pt o 0, b], .ty o 149]) := by
  refine aA Tryz.func136 rfl rfl ?_;show AW _ _ 20 _ _ _;refine aj <| ac ?_;show AR _ _ _ _ _ [0, 1, 2, 3, 4] _;refine ao rfl rfl ?_
  first | (refine an rfl rfl (ag (av := .pt _ _) rfl) ?_) | (refine an rfl rfl (ag (av := .cp _) rfl) ?_) | (refine an rfl rfl (ag (av := .v _) rfl) ?_)
  refine ao rfl rfl ?_
  first | (refine an rfl rfl (am rfl) ?_) | (refine an rfl rfl (bg rfl) ?_) | (refine an rfl rfl (bf rfl) ?_)
  refine ao rfl rfl <| an rfl rfl (ah (n := 0) (by kernel_rfl) rfl) <| ao rfl rfl ?_
  first | refine an rfl rfl (aI aW rfl rfl) ?_ | refine bM rfl rfl (ai (i := 0) aW rfl rfl rfl rfl) ?_ | refine bM rfl rfl (ai (i := 1) aW rfl rfl rfl rfl) ?_
  refine ao rfl rfl ?_
  first | (refine an rfl rfl (iz aW rfl rfl) ?_) | (refine an rfl rfl (jR aW rfl rfl) ?_)
  refine ak <| aG rfl (fun c1 => ?_) (fun c1 => ?_)
  · exact absurd c1 (by decide)
  · have c1p := c1; try simp only [decide_eq_true_eq, decide_eq_false_iff_not, Bool.not_eq_true', Bool.not_eq_false', Bool.not_true, Bool.not_false, Bool.not_eq_eq_eq_not] at c1p
    refine aj <| ac ?_;show AR _ _ _ _ _ [0, 1, 2, 3, 4, 5] _;refine ao rfl rfl ?_
    first | (refine an rfl rfl (ag (av := .pt _ _) rfl) ?_) | (refine an rfl rfl (ag (av := .cp _) rfl) ?_) | (refine an rfl rfl (ag (av := .v _) rfl) ?_)
    refine ao rfl rfl ?_
    first | (refine an rfl rfl (am rfl) ?_) | (refine an rfl rfl (bg rfl) ?_) | (refine an rfl rfl (bf rfl) ?_)
    refine ao rfl rfl <| an rfl rfl (ah (n := 0) (by kernel_rfl) rfl) <| ao rfl rfl ?_
    first | refine an rfl rfl (aI aW rfl rfl) ?_ | refine bM rfl rfl (ai (i := 0) aW rfl rfl rfl rfl) ?_ | refine bM rfl rfl (ai (i := 1) aW rfl rfl rfl rfl) ?_
    refine ao rfl rfl ?_
    first | (refine an rfl rfl (ag (av := .pt _ _) rfl) ?_) | (refine an rfl rfl (ag (av := .cp _) rfl) ?_) | (refine an rfl rfl (ag (av := .v _) rfl) ?_)
    refine ao rfl rfl ?_
    first | (refine an rfl rfl (nV aW rfl rfl) ?_) | (refine an rfl rfl (mM aW rfl rfl) ?_) | (refine an rfl rfl (oW (k := 2) aW (by kernel_rfl) (by decide) rfl rfl) ?_)
    refine ak <| aG rfl (fun c2 => ?_) (fun c2 => ?_)
    · have c2p := c2; try simp only [decide_eq_true_eq, decide_eq_false_iff_not, Bool.not_eq_true', Bool.not_eq_false', Bool.not_true, Bool.not_false, Bool.not_eq_eq_eq_not] at c2p
      exfalso; first | omega | simp_all
    · have c2p := c2; try simp only [decide_eq_true_eq, decide_eq_false_iff_not, Bool.not_eq_true', Bool.not_eq_false', Bool.not_true, Bool.not_false, Bool.not_eq_eq_eq_not] at c2p
      refine aM ?_
      -- END 1 (end)
      show ci _ _ _ _ .normal _
      (refine ⟨rfl, _, _, bc rfl, ?_, ⟨rfl, rfl⟩⟩; all_goals first | exact bp _ | exact cq _ | ((repeat (first | exact bp _ | exact cq _ | refine dR _ ?_ | refine dQ _ ?_)); done) | exact Wv.refl _ | exact Wv.tok _ _ _ | exact Wv.nil _)
theorem fi (o : Nat) (a b : AV) (ha : a = .v (.pointer none) ∨ a = .pt o 0) : ACalls Tryz.prog 136 [.pt o 0] [.obj o [a, b], .ty o 149] (Ret (.tup []) [.obj o [.pt o 0, b], .ty o 149]) := by
  rcases ha with rfl | rfl
  · exact jC  o b
  · exact jB  o b
abbrev _root_.Go.Av.aa := @Tryz.underlying22
abbrev _root_.Go.Av.al := @Tryz.underlying9
set_option maxRecDepth 100000 in
set_option maxHeartbeats 1000000 in
theorem eC (o : Nat) (a : AV) (ha : a = .v (.pointer none) ∨ a = .pt o 0) (l s : List UInt8) (t : Nat) (hl : l.length + s.length ≤ 1000000000) :
    ACalls Tryz.prog 126 [.pt o 0, S s] [.obj o [a, slE Enc.byte l (some t)], .ty o 149, .tok t 5] (fun e A' => e = .ret (.tup [i64 s.length, .v .nilIface]) ∧ ∃ t', A' = [.obj o [.pt o 0, slE Enc.byte (l ++ s) (some t')], .ty o 149, .tok t' 5]) := by
  refine aA Tryz.func126 rfl rfl ?_;show AW _ _ 19 _ _ _;refine aj <| ac ?_;show AR _ _ _ _ _ [0, 1] _;refine ao rfl rfl <| an rfl rfl (ay (av := .v _) rfl) <| ao rfl rfl <| an rfl rfl (ay (av := .v _) rfl) <| ak <| aj <| ac ?_;show AR _ _ _ _ _ [0, 1] _;refine ao rfl rfl ?_
  first | (refine an rfl rfl (ag (av := .pt _ _) rfl) ?_) | (refine an rfl rfl (ag (av := .cp _) rfl) ?_) | (refine an rfl rfl (ag (av := .v _) rfl) ?_)
  refine ao rfl rfl <| ee [.tok t 5] rfl en136 rfl (fi  o a (slE Enc.byte l (some t)) ha) ?p1 ?k1 ?q1
  (case p1 => (exact bG _))
  (case q1 => (rintro c A' ⟨h, _⟩; cases h))
  rintro av A' ⟨h, rfl⟩; cases h
  refine ak <| aj <| ac ?_;show AR _ _ _ _ _ [0, 1, 2, 3, 4, 5, 6, 7, 8, 9] _;refine ao rfl rfl ?_
  first | (refine an rfl rfl (ag (av := .pt _ _) rfl) ?_) | (refine an rfl rfl (ag (av := .cp _) rfl) ?_) | (refine an rfl rfl (ag (av := .v _) rfl) ?_)
  refine ao rfl rfl ?_
  first | (refine an rfl rfl (ag (av := .pt _ _) rfl) ?_) | (refine an rfl rfl (ag (av := .cp _) rfl) ?_) | (refine an rfl rfl (ag (av := .v _) rfl) ?_)
  refine ao rfl rfl ?_
  first | (refine an rfl rfl (am rfl) ?_) | (refine an rfl rfl (bg rfl) ?_) | (refine an rfl rfl (bf rfl) ?_)
  refine ao rfl rfl <| an rfl rfl (ah (n := 1) (by kernel_rfl) rfl) <| ao rfl rfl ?_
  first | refine an rfl rfl (aI aa rfl rfl) ?_ | refine bM rfl rfl (ai (i := 0) aa rfl rfl rfl rfl) ?_ | refine bM rfl rfl (ai (i := 1) aa rfl rfl rfl rfl) ?_
  refine ao rfl rfl <| an rfl rfl (ag (av := .v _) rfl) <| ao rfl rfl ?_
  first | (refine AO.opx rfl rfl (eH (bytes := 1) 0 aa al rfl (by kernel_rfl) rfl rfl rfl ?h3 ?h4) ?_; (case h3 => (first | omega | (simp; done) | (simp; omega))); (case h4 => (first | omega | (simp; done) | (simp; omega)))) | (refine AO.opx rfl rfl (eH (bytes := 1) 1 aa al rfl (by kernel_rfl) rfl rfl rfl ?h5 ?h6) ?_; (case h5 => (first | omega | (simp; done) | (simp; omega))); (case h6 => (first | omega | (simp; done) | (simp; omega)))) | (refine AO.opx rfl rfl (eH (bytes := 1) 2 aa al rfl (by kernel_rfl) rfl rfl rfl ?h7 ?h8) ?_; (case h7 => (first | omega | (simp; done) | (simp; omega))); (case h8 => (first | omega | (simp; done) | (simp; omega)))) | (refine AO.opx rfl rfl (eH (bytes := 1) 3 aa al rfl (by kernel_rfl) rfl rfl rfl ?h9 ?h10) ?_; (case h9 => (first | omega | (simp; done) | (simp; omega))); (case h10 => (first | omega | (simp; done) | (simp; omega))))
  rintro _ _ ⟨t14, rfl, rfl⟩;refine ao rfl rfl ?_
  first | (refine an rfl rfl (am rfl) ?_) | (refine an rfl rfl (bg rfl) ?_) | (refine an rfl rfl (bf rfl) ?_)
  refine ao rfl rfl <| an rfl rfl (ah (n := 1) (by kernel_rfl) rfl) <| ao rfl rfl ?_
  first | (refine cJ rfl (ar (i := 0) (c := slE _ _ _) (by kernel_rfl) rfl rfl rfl rfl ?h12) ?_; (case h12 => (simp))) | (refine cJ rfl (ar (i := 0) (c := .v _) (by kernel_rfl) rfl rfl rfl rfl ?h13) ?_; (case h13 => (simp))) | (refine cJ rfl (ar (i := 0) (c := .vw _ _ _ _) (by kernel_rfl) rfl rfl rfl rfl ?h14) ?_; (case h14 => (simp))) | (refine cJ rfl (ar (i := 1) (c := slE _ _ _) (by kernel_rfl) rfl rfl rfl rfl ?h15) ?_; (case h15 => (simp))) | (refine cJ rfl (ar (i := 1) (c := .v _) (by kernel_rfl) rfl rfl rfl rfl ?h16) ?_; (case h16 => (simp))) | (refine cJ rfl (ar (i := 1) (c := .vw _ _ _ _) (by kernel_rfl) rfl rfl rfl rfl ?h17) ?_; (case h17 => (simp)))
  refine ak <| aj <| ac ?_;show AR _ _ _ _ _ [0, 1, 2, 3] _;refine ao rfl rfl <| an rfl rfl (ag (av := .v _) rfl) <| ao rfl rfl <| an rfl rfl (bx al rfl) <| ao rfl rfl <| an rfl rfl (ay (av := .v _) rfl) <| ao rfl rfl <| an rfl rfl (ay (av := .v _) rfl) <| ak <| aR ?_
  -- END 1 (ret)
  show ci _ _ _ _ .ret _;exact ⟨rfl, _, _, ResV.two (av := .v _) (bv := .v _) rfl rfl rfl, bp _, rfl, t14, rfl⟩
abbrev _root_.Go.Av.bL := @Tryz.underlying158
set_option maxRecDepth 100000 in
set_option maxHeartbeats 1000000 in
theorem lH (o : Nat) (a : AV) (l : List UInt8) (t : Nat) (hl : l.length ≤ 1000000000) :
    ACalls Tryz.prog 127 [.pt o 0] [.obj o [a, slE Enc.byte l (some t)], .tok t 5] (Ret (S l) [.obj o [a, slE Enc.byte l (some t)]]) := by
  refine aA Tryz.func127 rfl rfl ?_;show AW _ _ 14 _ _ _;refine aj <| ac ?_;show AR _ _ _ _ _ [0] _;refine ao rfl rfl <| an rfl rfl (ay (av := .v _) rfl) <| ak <| aj <| bn (by kernel_rfl) ?_;show AI _ _ _ _ _ 12 (Array.replicate 12 false) _
  first | (refine aB (i := 0) rfl rfl (by kernel_rfl) (by kernel_rfl) (by kernel_rfl) (fun _ _ h => by obtain ⟨_, _, _, h, _⟩ := h; cases h) (ag (av := .pt _ _) rfl) ?_) | (refine aB (i := 0) rfl rfl (by kernel_rfl) (by kernel_rfl) (by kernel_rfl) (fun _ _ h => by obtain ⟨_, _, _, h, _⟩ := h; cases h) (ag (av := .cp _) rfl) ?_) | (refine aB (i := 0) rfl rfl (by kernel_rfl) (by kernel_rfl) (by kernel_rfl) (fun _ _ h => by obtain ⟨_, _, _, h, _⟩ := h; cases h) (ag (av := .v _) rfl) ?_)
  show AI _ _ _ _ _ _ #[true, false, false, false, false, false, false, false, false, false, false, false] _
  first | (refine aB (i := 1) rfl rfl (by kernel_rfl) (by kernel_rfl) (by kernel_rfl) (fun _ _ h => by obtain ⟨_, _, _, h, _⟩ := h; cases h) (am rfl) ?_) | (refine aB (i := 1) rfl rfl (by kernel_rfl) (by kernel_rfl) (by kernel_rfl) (fun _ _ h => by obtain ⟨_, _, _, h, _⟩ := h; cases h) (bg rfl) ?_) | (refine aB (i := 1) rfl rfl (by kernel_rfl) (by kernel_rfl) (by kernel_rfl) (fun _ _ h => by obtain ⟨_, _, _, h, _⟩ := h; cases h) (bf rfl) ?_)
  show AI _ _ _ _ _ _ #[true, true, false, false, false, false, false, false, false, false, false, false] _;refine aB (i := 2) rfl rfl (by kernel_rfl) (by kernel_rfl) (by kernel_rfl) (fun _ _ h => by obtain ⟨_, _, _, h, _⟩ := h; cases h) (ah (n := 1) (by kernel_rfl) rfl) ?_;show AI _ _ _ _ _ _ #[true, true, true, false, false, false, false, false, false, false, false, false] _
  first | (refine aB (i := 5) rfl rfl (by kernel_rfl) (by kernel_rfl) (by kernel_rfl) (fun _ _ h => by obtain ⟨_, _, _, h, _⟩ := h; cases h) (ag (av := .pt _ _) rfl) ?_) | (refine aB (i := 5) rfl rfl (by kernel_rfl) (by kernel_rfl) (by kernel_rfl) (fun _ _ h => by obtain ⟨_, _, _, h, _⟩ := h; cases h) (ag (av := .cp _) rfl) ?_) | (refine aB (i := 5) rfl rfl (by kernel_rfl) (by kernel_rfl) (by kernel_rfl) (fun _ _ h => by obtain ⟨_, _, _, h, _⟩ := h; cases h) (ag (av := .v _) rfl) ?_)
  show AI _ _ _ _ _ _ #[true, true, true, false, false, true, false, false, false, false, false, false] _
  first | (refine aB (i := 6) rfl rfl (by kernel_rfl) (by kernel_rfl) (by kernel_rfl) (fun _ _ h => by obtain ⟨_, _, _, h, _⟩ := h; cases h) (am rfl) ?_) | (refine aB (i := 6) rfl rfl (by kernel_rfl) (by kernel_rfl) (by kernel_rfl) (fun _ _ h => by obtain ⟨_, _, _, h, _⟩ := h; cases h) (bg rfl) ?_) | (refine aB (i := 6) rfl rfl (by kernel_rfl) (by kernel_rfl) (by kernel_rfl) (fun _ _ h => by obtain ⟨_, _, _, h, _⟩ := h; cases h) (bf rfl) ?_)
  show AI _ _ _ _ _ _ #[true, true, true, false, false, true, true, false, false, false, false, false] _;refine aB (i := 7) rfl rfl (by kernel_rfl) (by kernel_rfl) (by kernel_rfl) (fun _ _ h => by obtain ⟨_, _, _, h, _⟩ := h; cases h) (ah (n := 1) (by kernel_rfl) rfl) ?_;show AI _ _ _ _ _ _ #[true, true, true, false, false, true, true, true, false, false, false, false] _;refine cj (i := 3) (j := 8) (by kernel_rfl) rfl rfl rfl rfl ?_ ?_
  · first | refine aH rfl (ai (i := 0) aa rfl rfl rfl rfl) ?_ | refine aH rfl (ai (i := 1) aa rfl rfl rfl rfl) ?_
    show AI _ _ _ _ _ _ #[true, true, true, true, false, true, true, true, false, false, false, false] _;refine cj (i := 4) (j := 8) (by kernel_rfl) rfl rfl rfl rfl ?_ ?_
    · first | refine aH rfl (ew (i := 0) bL rfl rfl) ?_ | refine aH rfl (ew (i := 1) bL rfl rfl) ?_
      show AI _ _ _ _ _ _ #[true, true, true, true, true, true, true, true, false, false, false, false] _;refine aE (i := 8) (by kernel_rfl) rfl rfl ?_
      first | refine aH rfl (ai (i := 0) aa rfl rfl rfl rfl) ?_ | refine aH rfl (ai (i := 1) aa rfl rfl rfl rfl) ?_
      show AI _ _ _ _ _ _ #[true, true, true, true, true, true, true, true, true, false, false, false] _
      first | (refine aB (i := 9) rfl rfl (by kernel_rfl) (by kernel_rfl) (by kernel_rfl) (fun _ _ h => by obtain ⟨_, _, _, h, _⟩ := h; cases h) (aU aa rfl) ?_) | (refine aB (i := 9) rfl rfl (by kernel_rfl) (by kernel_rfl) (by kernel_rfl) (fun _ _ h => by obtain ⟨_, _, _, h, _⟩ := h; cases h) (cn aa rfl) ?_)
      show AI _ _ _ _ _ _ #[true, true, true, true, true, true, true, true, true, true, false, false] _;refine aE (i := 10) (by kernel_rfl) rfl rfl ?_
      first | (refine aH rfl (dn (i := 0) (El := 5) bL (by kernel_rfl) rfl rfl rfl ?h2 rfl) ?_; (case h2 => (first | omega | (simp; omega)))) | (refine aH rfl (dn (i := 1) (El := 5) bL (by kernel_rfl) rfl rfl rfl ?h3 rfl) ?_; (case h3 => (first | omega | (simp; omega))))
      show AI _ _ _ _ _ _ #[true, true, true, true, true, true, true, true, true, true, true, false] _;refine aB (i := 11) rfl rfl (by kernel_rfl) (by kernel_rfl) (by kernel_rfl) (fun _ _ h => by obtain ⟨_, _, _, h, _⟩ := h; cases h) (ay (av := .v _) rfl) ?_;show AI _ _ _ _ _ _ #[true, true, true, true, true, true, true, true, true, true, true, true] _;refine aZ rfl <| aR ?_
      -- END 1 (ret)
      show ci _ _ _ _ .ret _
      (refine ⟨rfl, _, _, aV rfl ?_, ?_, ⟨rfl, rfl⟩⟩; all_goals first | exact bp _ | exact cq _ | ((repeat (first | exact bp _ | exact cq _ | refine dR _ ?_ | refine dQ _ ?_)); done) | exact Wv.refl _ | exact Wv.tok _ _ _ | exact Wv.nil _)
    · first | refine aH rfl (ai (i := 0) aa rfl rfl rfl rfl) ?_ | refine aH rfl (ai (i := 1) aa rfl rfl rfl rfl) ?_
      show AI _ _ _ _ _ _ #[true, true, true, true, false, true, true, true, true, false, false, false] _
      first | (refine aB (i := 9) rfl rfl (by kernel_rfl) (by kernel_rfl) (by kernel_rfl) (fun _ _ h => by obtain ⟨_, _, _, h, _⟩ := h; cases h) (aU aa rfl) ?_) | (refine aB (i := 9) rfl rfl (by kernel_rfl) (by kernel_rfl) (by kernel_rfl) (fun _ _ h => by obtain ⟨_, _, _, h, _⟩ := h; cases h) (cn aa rfl) ?_)
      show AI _ _ _ _ _ _ #[true, true, true, true, false, true, true, true, true, true, false, false] _;refine aE (i := 4) (by kernel_rfl) rfl rfl ?_
      first | refine aH rfl (ew (i := 0) bL rfl rfl) ?_ | refine aH rfl (ew (i := 1) bL rfl rfl) ?_
      show AI _ _ _ _ _ _ #[true, true, true, true, true, true, true, true, true, true, false, false] _;refine aE (i := 10) (by kernel_rfl) rfl rfl ?_
      first | (refine aH rfl (dn (i := 0) (El := 5) bL (by kernel_rfl) rfl rfl rfl ?h5 rfl) ?_; (case h5 => (first | omega | (simp; omega)))) | (refine aH rfl (dn (i := 1) (El := 5) bL (by kernel_rfl) rfl rfl rfl ?h6 rfl) ?_; (case h6 => (first | omega | (simp; omega))))
      show AI _ _ _ _ _ _ #[true, true, true, true, true, true, true, true, true, true, true, false] _;refine aB (i := 11) rfl rfl (by kernel_rfl) (by kernel_rfl) (by kernel_rfl) (fun _ _ h => by obtain ⟨_, _, _, h, _⟩ := h; cases h) (ay (av := .v _) rfl) ?_;show AI _ _ _ _ _ _ #[true, true, true, true, true, true, true, true, true, true, true, true] _;refine aZ rfl <| aR ?_
      -- END 2 (ret)
      show ci _ _ _ _ .ret _
      (refine ⟨rfl, _, _, aV rfl ?_, ?_, ⟨rfl, rfl⟩⟩; all_goals first | exact bp _ | exact cq _ | ((repeat (first | exact bp _ | exact cq _ | refine dR _ ?_ | refine dQ _ ?_)); done) | exact Wv.refl _ | exact Wv.tok _ _ _ | exact Wv.nil _)
  · first | refine aH rfl (ai (i := 0) aa rfl rfl rfl rfl) ?_ | refine aH rfl (ai (i := 1) aa rfl rfl rfl rfl) ?_
    show AI _ _ _ _ _ _ #[true, true, true, false, false, true, true, true, true, false, false, false] _
    first | (refine aB (i := 9) rfl rfl (by kernel_rfl) (by kernel_rfl) (by kernel_rfl) (fun _ _ h => by obtain ⟨_, _, _, h, _⟩ := h; cases h) (aU aa rfl) ?_) | (refine aB (i := 9) rfl rfl (by kernel_rfl) (by kernel_rfl) (by kernel_rfl) (fun _ _ h => by obtain ⟨_, _, _, h, _⟩ := h; cases h) (cn aa rfl) ?_)
    show AI _ _ _ _ _ _ #[true, true, true, false, false, true, true, true, true, true, false, false] _;refine aE (i := 3) (by kernel_rfl) rfl rfl ?_
    first | refine aH rfl (ai (i := 0) aa rfl rfl rfl rfl) ?_ | refine aH rfl (ai (i := 1) aa rfl rfl rfl rfl) ?_
    show AI _ _ _ _ _ _ #[true, true, true, true, false, true, true, true, true, true, false, false] _;refine aE (i := 4) (by kernel_rfl) rfl rfl ?_
    first | refine aH rfl (ew (i := 0) bL rfl rfl) ?_ | refine aH rfl (ew (i := 1) bL rfl rfl) ?_
    show AI _ _ _ _ _ _ #[true, true, true, true, true, true, true, true, true, true, false, false] _;refine aE (i := 10) (by kernel_rfl) rfl rfl ?_
    first | (refine aH rfl (dn (i := 0) (El := 5) bL (by kernel_rfl) rfl rfl rfl ?h8 rfl) ?_; (case h8 => (first | omega | (simp; omega)))) | (refine aH rfl (dn (i := 1) (El := 5) bL (by kernel_rfl) rfl rfl rfl ?h9 rfl) ?_; (case h9 => (first | omega | (simp; omega))))
    show AI _ _ _ _ _ _ #[true, true, true, true, true, true, true, true, true, true, true, false] _;refine aB (i := 11) rfl rfl (by kernel_rfl) (by kernel_rfl) (by kernel_rfl) (fun _ _ h => by obtain ⟨_, _, _, h, _⟩ := h; cases h) (ay (av := .v _) rfl) ?_;show AI _ _ _ _ _ _ #[true, true, true, true, true, true, true, true, true, true, true, true] _;refine aZ rfl <| aR ?_
    -- END 3 (ret)
    show ci _ _ _ _ .ret _
    (refine ⟨rfl, _, _, aV rfl ?_, ?_, ⟨rfl, rfl⟩⟩; all_goals first | exact bp _ | exact cq _ | ((repeat (first | exact bp _ | exact cq _ | refine dR _ ?_ | refine dQ _ ?_)); done) | exact Wv.refl _ | exact Wv.tok _ _ _ | exact Wv.nil _)
set_option maxRecDepth 100000 in
set_option maxHeartbeats 1000000 in
theorem gg (o : Nat) (a : AV) (n : Nat) (hn : n ≤ 1000000000) :
    ACalls Tryz.prog 137 [.pt o 0, i64 n] [.obj o [a, gu]] (fun e A' => e = .ret (.tup []) ∧ ∃ t', A' = [.tok t' 5, .obj o [a, slE Enc.byte [] (some t')]]) := by
  refine aA Tryz.func137 rfl rfl ?_;show AW _ _ 30 _ _ _;refine aj <| bn (by kernel_rfl) ?_;show AI _ _ _ _ _ 16 (Array.replicate 16 false) _
  first | (refine aB (i := 0) rfl rfl (by kernel_rfl) (by kernel_rfl) (by kernel_rfl) (fun _ _ h => by obtain ⟨_, _, _, h, _⟩ := h; cases h) (ag (av := .pt _ _) rfl) ?_) | (refine aB (i := 0) rfl rfl (by kernel_rfl) (by kernel_rfl) (by kernel_rfl) (fun _ _ h => by obtain ⟨_, _, _, h, _⟩ := h; cases h) (ag (av := .cp _) rfl) ?_) | (refine aB (i := 0) rfl rfl (by kernel_rfl) (by kernel_rfl) (by kernel_rfl) (fun _ _ h => by obtain ⟨_, _, _, h, _⟩ := h; cases h) (ag (av := .v _) rfl) ?_)
  show AI _ _ _ _ _ _ #[true, false, false, false, false, false, false, false, false, false, false, false, false, false, false, false] _
  first | (refine aB (i := 1) rfl rfl (by kernel_rfl) (by kernel_rfl) (by kernel_rfl) (fun _ _ h => by obtain ⟨_, _, _, h, _⟩ := h; cases h) (am rfl) ?_) | (refine aB (i := 1) rfl rfl (by kernel_rfl) (by kernel_rfl) (by kernel_rfl) (fun _ _ h => by obtain ⟨_, _, _, h, _⟩ := h; cases h) (bg rfl) ?_) | (refine aB (i := 1) rfl rfl (by kernel_rfl) (by kernel_rfl) (by kernel_rfl) (fun _ _ h => by obtain ⟨_, _, _, h, _⟩ := h; cases h) (bf rfl) ?_)
  show AI _ _ _ _ _ _ #[true, true, false, false, false, false, false, false, false, false, false, false, false, false, false, false] _;refine aB (i := 2) rfl rfl (by kernel_rfl) (by kernel_rfl) (by kernel_rfl) (fun _ _ h => by obtain ⟨_, _, _, h, _⟩ := h; cases h) (ah (n := 1) (by kernel_rfl) rfl) ?_;show AI _ _ _ _ _ _ #[true, true, true, false, false, false, false, false, false, false, false, false, false, false, false, false] _;refine aB (i := 6) rfl rfl (by kernel_rfl) (by kernel_rfl) (by kernel_rfl) (fun _ _ h => by obtain ⟨_, _, _, h, _⟩ := h; cases h) (ag (av := .v _) rfl) ?_;show AI _ _ _ _ _ _ #[true, true, true, false, false, false, true, false, false, false, false, false, false, false, false, false] _
  first | (refine aB (i := 9) rfl rfl (by kernel_rfl) (by kernel_rfl) (by kernel_rfl) (fun _ _ h => by obtain ⟨_, _, _, h, _⟩ := h; cases h) (ag (av := .pt _ _) rfl) ?_) | (refine aB (i := 9) rfl rfl (by kernel_rfl) (by kernel_rfl) (by kernel_rfl) (fun _ _ h => by obtain ⟨_, _, _, h, _⟩ := h; cases h) (ag (av := .cp _) rfl) ?_) | (refine aB (i := 9) rfl rfl (by kernel_rfl) (by kernel_rfl) (by kernel_rfl) (fun _ _ h => by obtain ⟨_, _, _, h, _⟩ := h; cases h) (ag (av := .v _) rfl) ?_)
  show AI _ _ _ _ _ _ #[true, true, true, false, false, false, true, false, false, true, false, false, false, false, false, false] _
  first | (refine aB (i := 10) rfl rfl (by kernel_rfl) (by kernel_rfl) (by kernel_rfl) (fun _ _ h => by obtain ⟨_, _, _, h, _⟩ := h; cases h) (am rfl) ?_) | (refine aB (i := 10) rfl rfl (by kernel_rfl) (by kernel_rfl) (by kernel_rfl) (fun _ _ h => by obtain ⟨_, _, _, h, _⟩ := h; cases h) (bg rfl) ?_) | (refine aB (i := 10) rfl rfl (by kernel_rfl) (by kernel_rfl) (by kernel_rfl) (fun _ _ h => by obtain ⟨_, _, _, h, _⟩ := h; cases h) (bf rfl) ?_)
  show AI _ _ _ _ _ _ #[true, true, true, false, false, false, true, false, false, true, true, false, false, false, false, false] _;refine aB (i := 11) rfl rfl (by kernel_rfl) (by kernel_rfl) (by kernel_rfl) (fun _ _ h => by obtain ⟨_, _, _, h, _⟩ := h; cases h) (ah (n := 1) (by kernel_rfl) rfl) ?_;show AI _ _ _ _ _ _ #[true, true, true, false, false, false, true, false, false, true, true, true, false, false, false, false] _;refine cj (i := 3) (j := 12) (by kernel_rfl) rfl rfl rfl rfl ?_ ?_
  · first | refine aH rfl (ai (i := 0) aa rfl rfl rfl rfl) ?_ | refine aH rfl (ai (i := 1) aa rfl rfl rfl rfl) ?_
    show AI _ _ _ _ _ _ #[true, true, true, true, false, false, true, false, false, true, true, true, false, false, false, false] _
    first | (refine aB (i := 4) rfl rfl (by kernel_rfl) (by kernel_rfl) (by kernel_rfl) (fun _ _ h => by obtain ⟨_, _, _, h, _⟩ := h; cases h) (fw aa rfl) ?_) | (refine aB (i := 4) rfl rfl (by kernel_rfl) (by kernel_rfl) (by kernel_rfl) (fun _ _ h => by obtain ⟨_, _, _, h, _⟩ := h; cases h) (opS_cap_vw aa rfl) ?_)
    show AI _ _ _ _ _ _ #[true, true, true, true, true, false, true, false, false, true, true, true, false, false, false, false] _
    refine aB (i := 5) rfl rfl (by kernel_rfl) (by kernel_rfl) (by kernel_rfl) (fun _ _ h => by obtain ⟨_, _, _, h, _⟩ := h; cases h) (lO rfl rfl ?h2) ?_; (case h2 => (omega))
    show AI _ _ _ _ _ _ #[true, true, true, true, true, true, true, false, false, true, true, true, false, false, false, false] _
    refine aB (i := 7) rfl rfl (by kernel_rfl) (by kernel_rfl) (by kernel_rfl) (fun _ _ h => by obtain ⟨_, _, _, h, _⟩ := h; cases h) (iO rfl rfl ?h4) ?_; (case h4 => (omega))
    show AI _ _ _ _ _ _ #[true, true, true, true, true, true, true, true, false, true, true, true, false, false, false, false] _;refine cj (i := 8) (j := 12) (by kernel_rfl) rfl rfl rfl rfl ?_ ?_
    · refine dc rfl (gK (m := n) (ps := #[3]) (t0 := 22) Tryz.func144 ⟨by kernel_rfl, by kernel_rfl, by kernel_rfl, by kernel_rfl⟩ aa rfl ?h7 ?h8) ?_; (case h7 => (omega)); (case h8 => (first | omega | (simp; omega)))
      rintro _ _ ⟨t13, rfl, rfl⟩;show AI _ _ _ _ _ _ #[true, true, true, true, true, true, true, true, true, true, true, true, false, false, false, false] _;refine aE (i := 12) (by kernel_rfl) rfl rfl ?_
      first | refine aH rfl (ai (i := 0) aa rfl rfl rfl rfl) ?_ | refine aH rfl (ai (i := 1) aa rfl rfl rfl rfl) ?_
      show AI _ _ _ _ _ _ #[true, true, true, true, true, true, true, true, true, true, true, true, true, false, false, false] _
      first | (refine aB (i := 13) rfl rfl (by kernel_rfl) (by kernel_rfl) (by kernel_rfl) (fun _ _ h => by obtain ⟨_, _, _, h, _⟩ := h; cases h) (aU aa rfl) ?_) | (refine aB (i := 13) rfl rfl (by kernel_rfl) (by kernel_rfl) (by kernel_rfl) (fun _ _ h => by obtain ⟨_, _, _, h, _⟩ := h; cases h) (cn aa rfl) ?_)
      show AI _ _ _ _ _ _ #[true, true, true, true, true, true, true, true, true, true, true, true, true, true, false, false] _
      refine aB (i := 14) rfl rfl (by kernel_rfl) (by kernel_rfl) (by kernel_rfl) (fun _ _ h => by obtain ⟨_, _, _, h, _⟩ := h; cases h) (iy (E := Enc.byte) aa (by kernel_rfl) rfl rfl rfl ?h9) ?_; (case h9 => (first | rfl | omega))
      show AI _ _ _ _ _ _ #[true, true, true, true, true, true, true, true, true, true, true, true, true, true, true, false] _
      first | (refine aB (i := 15) rfl rfl (by kernel_rfl) (by kernel_rfl) (by kernel_rfl) (fun _ _ h => by obtain ⟨_, _, _, h, _⟩ := h; cases h) (ay (av := slE _ _ _) rfl) ?_) | (refine aB (i := 15) rfl rfl (by kernel_rfl) (by kernel_rfl) (by kernel_rfl) (fun _ _ h => by obtain ⟨_, _, _, h, _⟩ := h; cases h) (ay (av := .v _) rfl) ?_) | (refine aB (i := 15) rfl rfl (by kernel_rfl) (by kernel_rfl) (by kernel_rfl) (fun _ _ h => by obtain ⟨_, _, _, h, _⟩ := h; cases h) (ay (av := .vw _ _ _ _) rfl) ?_)
      show AI _ _ _ _ _ _ #[true, true, true, true, true, true, true, true, true, true, true, true, true, true, true, true] _;refine aZ rfl <| aj <| ac ?_;show AR _ _ _ _ _ [0, 1, 2, 3, 4, 5] _;refine ao rfl rfl ?_
      first | (refine an rfl rfl (ag (av := slE _ _ _) rfl) ?_) | (refine an rfl rfl (ag (av := .v _) rfl) ?_) | (refine an rfl rfl (ag (av := .vw _ _ _ _) rfl) ?_)
      refine ao rfl rfl ?_
      first | (refine an rfl rfl (ag (av := .pt _ _) rfl) ?_) | (refine an rfl rfl (ag (av := .cp _) rfl) ?_) | (refine an rfl rfl (ag (av := .v _) rfl) ?_)
      refine ao rfl rfl ?_
      first | (refine an rfl rfl (am rfl) ?_) | (refine an rfl rfl (bg rfl) ?_) | (refine an rfl rfl (bf rfl) ?_)
      refine ao rfl rfl <| an rfl rfl (ah (n := 1) (by kernel_rfl) rfl) <| ao rfl rfl ?_
      first | refine an rfl rfl (aI aa rfl rfl) ?_ | refine bM rfl rfl (ai (i := 0) aa rfl rfl rfl rfl) ?_ | refine bM rfl rfl (ai (i := 1) aa rfl rfl rfl rfl) ?_
      refine ao rfl rfl ?_
      first | (refine bM rfl rfl (OpS.opR (hM (E := Enc.byte) aa (by kernel_rfl) rfl rfl) _) ?_) | (refine bM rfl rfl (fx (E := Enc.byte) (i := 0) aa (by kernel_rfl) rfl rfl rfl ?h12 ?h13) ?_; (case h12 => (first | omega | (simp; omega))); (case h13 => (first | omega | (simp; omega)))) | (refine bM rfl rfl (fx (E := Enc.byte) (i := 1) aa (by kernel_rfl) rfl rfl rfl ?h14 ?h15) ?_; (case h14 => (first | omega | (simp; omega))); (case h15 => (first | omega | (simp; omega)))) | (refine bM rfl rfl (eU (i := 0) aa (by kernel_rfl) rfl rfl rfl ?h16 ?h17) ?_; (case h16 => (first | omega | (simp; omega))); (case h17 => (first | omega | (simp; omega)))) | (refine bM rfl rfl (eU (i := 1) aa (by kernel_rfl) rfl rfl rfl ?h18 ?h19) ?_; (case h18 => (first | omega | (simp; omega))); (case h19 => (first | omega | (simp; omega))))
      refine ak <| ac ?_;show AR _ _ _ _ _ [0, 1, 2, 3, 4] _;refine ao rfl rfl ?_
      first | (refine an rfl rfl (ag (av := .pt _ _) rfl) ?_) | (refine an rfl rfl (ag (av := .cp _) rfl) ?_) | (refine an rfl rfl (ag (av := .v _) rfl) ?_)
      refine ao rfl rfl ?_
      first | (refine an rfl rfl (ag (av := slE _ _ _) rfl) ?_) | (refine an rfl rfl (ag (av := .v _) rfl) ?_) | (refine an rfl rfl (ag (av := .vw _ _ _ _) rfl) ?_)
      refine ao rfl rfl ?_
      first | (refine an rfl rfl (am rfl) ?_) | (refine an rfl rfl (bg rfl) ?_) | (refine an rfl rfl (bf rfl) ?_)
      refine ao rfl rfl <| an rfl rfl (ah (n := 1) (by kernel_rfl) rfl) <| ao rfl rfl ?_
      first | (refine cJ rfl (ar (i := 0) (c := slE _ _ _) (by kernel_rfl) rfl rfl rfl rfl ?h21) ?_; (case h21 => (simp))) | (refine cJ rfl (ar (i := 0) (c := .v _) (by kernel_rfl) rfl rfl rfl rfl ?h22) ?_; (case h22 => (simp))) | (refine cJ rfl (ar (i := 0) (c := .vw _ _ _ _) (by kernel_rfl) rfl rfl rfl rfl ?h23) ?_; (case h23 => (simp))) | (refine cJ rfl (ar (i := 1) (c := slE _ _ _) (by kernel_rfl) rfl rfl rfl rfl ?h24) ?_; (case h24 => (simp))) | (refine cJ rfl (ar (i := 1) (c := .v _) (by kernel_rfl) rfl rfl rfl rfl ?h25) ?_; (case h25 => (simp))) | (refine cJ rfl (ar (i := 1) (c := .vw _ _ _ _) (by kernel_rfl) rfl rfl rfl rfl ?h26) ?_; (case h26 => (simp)))
      refine ak ?_
      -- END 1 (end)
      show ci _ _ _ _ .normal _;exact ⟨rfl, _, _, dX rfl, bp _, rfl, t13, rfl⟩
    · first | refine aH rfl (ai (i := 0) aa rfl rfl rfl rfl) ?_ | refine aH rfl (ai (i := 1) aa rfl rfl rfl rfl) ?_
      show AI _ _ _ _ _ _ #[true, true, true, true, true, true, true, true, false, true, true, true, true, false, false, false] _
      first | (refine aB (i := 13) rfl rfl (by kernel_rfl) (by kernel_rfl) (by kernel_rfl) (fun _ _ h => by obtain ⟨_, _, _, h, _⟩ := h; cases h) (aU aa rfl) ?_) | (refine aB (i := 13) rfl rfl (by kernel_rfl) (by kernel_rfl) (by kernel_rfl) (fun _ _ h => by obtain ⟨_, _, _, h, _⟩ := h; cases h) (cn aa rfl) ?_)
      show AI _ _ _ _ _ _ #[true, true, true, true, true, true, true, true, false, true, true, true, true, true, false, false] _;refine aE (i := 8) (by kernel_rfl) rfl rfl ?_
      refine dc rfl (gK (m := n) (ps := #[3]) (t0 := 22) Tryz.func144 ⟨by kernel_rfl, by kernel_rfl, by kernel_rfl, by kernel_rfl⟩ aa rfl ?h29 ?h30) ?_; (case h29 => (omega)); (case h30 => (first | omega | (simp; omega)))
      rintro _ _ ⟨t13, rfl, rfl⟩;show AI _ _ _ _ _ _ #[true, true, true, true, true, true, true, true, true, true, true, true, true, true, false, false] _
      refine aB (i := 14) rfl rfl (by kernel_rfl) (by kernel_rfl) (by kernel_rfl) (fun _ _ h => by obtain ⟨_, _, _, h, _⟩ := h; cases h) (iy (E := Enc.byte) aa (by kernel_rfl) rfl rfl rfl ?h31) ?_; (case h31 => (first | rfl | omega))
      show AI _ _ _ _ _ _ #[true, true, true, true, true, true, true, true, true, true, true, true, true, true, true, false] _
      first | (refine aB (i := 15) rfl rfl (by kernel_rfl) (by kernel_rfl) (by kernel_rfl) (fun _ _ h => by obtain ⟨_, _, _, h, _⟩ := h; cases h) (ay (av := slE _ _ _) rfl) ?_) | (refine aB (i := 15) rfl rfl (by kernel_rfl) (by kernel_rfl) (by kernel_rfl) (fun _ _ h => by obtain ⟨_, _, _, h, _⟩ := h; cases h) (ay (av := .v _) rfl) ?_) | (refine aB (i := 15) rfl rfl (by kernel_rfl) (by kernel_rfl) (by kernel_rfl) (fun _ _ h => by obtain ⟨_, _, _, h, _⟩ := h; cases h) (ay (av := .vw _ _ _ _) rfl) ?_)
      show AI _ _ _ _ _ _ #[true, true, true, true, true, true, true, true, true, true, true, true, true, true, true, true] _;refine aZ rfl <| aj <| ac ?_;show AR _ _ _ _ _ [0, 1, 2, 3, 4, 5] _;refine ao rfl rfl ?_
      first | (refine an rfl rfl (ag (av := slE _ _ _) rfl) ?_) | (refine an rfl rfl (ag (av := .v _) rfl) ?_) | (refine an rfl rfl (ag (av := .vw _ _ _ _) rfl) ?_)
      refine ao rfl rfl ?_
      first | (refine an rfl rfl (ag (av := .pt _ _) rfl) ?_) | (refine an rfl rfl (ag (av := .cp _) rfl) ?_) | (refine an rfl rfl (ag (av := .v _) rfl) ?_)
      refine ao rfl rfl ?_
      first | (refine an rfl rfl (am rfl) ?_) | (refine an rfl rfl (bg rfl) ?_) | (refine an rfl rfl (bf rfl) ?_)
      refine ao rfl rfl <| an rfl rfl (ah (n := 1) (by kernel_rfl) rfl) <| ao rfl rfl ?_
      first | refine an rfl rfl (aI aa rfl rfl) ?_ | refine bM rfl rfl (ai (i := 0) aa rfl rfl rfl rfl) ?_ | refine bM rfl rfl (ai (i := 1) aa rfl rfl rfl rfl) ?_
      refine ao rfl rfl ?_
      first | (refine bM rfl rfl (OpS.opR (hM (E := Enc.byte) aa (by kernel_rfl) rfl rfl) _) ?_) | (refine bM rfl rfl (fx (E := Enc.byte) (i := 0) aa (by kernel_rfl) rfl rfl rfl ?h34 ?h35) ?_; (case h34 => (first | omega | (simp; omega))); (case h35 => (first | omega | (simp; omega)))) | (refine bM rfl rfl (fx (E := Enc.byte) (i := 1) aa (by kernel_rfl) rfl rfl rfl ?h36 ?h37) ?_; (case h36 => (first | omega | (simp; omega))); (case h37 => (first | omega | (simp; omega)))) | (refine bM rfl rfl (eU (i := 0) aa (by kernel_rfl) rfl rfl rfl ?h38 ?h39) ?_; (case h38 => (first | omega | (simp; omega))); (case h39 => (first | omega | (simp; omega)))) | (refine bM rfl rfl (eU (i := 1) aa (by kernel_rfl) rfl rfl rfl ?h40 ?h41) ?_; (case h40 => (first | omega | (simp; omega))); (case h41 => (first | omega | (simp; omega))))
      refine ak <| ac ?_;show AR _ _ _ _ _ [0, 1, 2, 3, 4] _;refine ao rfl rfl ?_
      first | (refine an rfl rfl (ag (av := .pt _ _) rfl) ?_) | (refine an rfl rfl (ag (av := .cp _) rfl) ?_) | (refine an rfl rfl (ag (av := .v _) rfl) ?_)
      refine ao rfl rfl ?_
      first | (refine an rfl rfl (ag (av := slE _ _ _) rfl) ?_) | (refine an rfl rfl (ag (av := .v _) rfl) ?_) | (refine an rfl rfl (ag (av := .vw _ _ _ _) rfl) ?_)
      refine ao rfl rfl ?_
      first | (refine an rfl rfl (am rfl) ?_) | (refine an rfl rfl (bg rfl) ?_) | (refine an rfl rfl (bf rfl) ?_)
      refine ao rfl rfl <| an rfl rfl (ah (n := 1) (by kernel_rfl) rfl) <| ao rfl rfl ?_
      first | (refine cJ rfl (ar (i := 0) (c := slE _ _ _) (by kernel_rfl) rfl rfl rfl rfl ?h43) ?_; (case h43 => (simp))) | (refine cJ rfl (ar (i := 0) (c := .v _) (by kernel_rfl) rfl rfl rfl rfl ?h44) ?_; (case h44 => (simp))) | (refine cJ rfl (ar (i := 0) (c := .vw _ _ _ _) (by kernel_rfl) rfl rfl rfl rfl ?h45) ?_; (case h45 => (simp))) | (refine cJ rfl (ar (i := 1) (c := slE _ _ _) (by kernel_rfl) rfl rfl rfl rfl ?h46) ?_; (case h46 => (simp))) | (refine cJ rfl (ar (i := 1) (c := .v _) (by kernel_rfl) rfl rfl rfl rfl ?h47) ?_; (case h47 => (simp))) | (refine cJ rfl (ar (i := 1) (c := .vw _ _ _ _) (by kernel_rfl) rfl rfl rfl rfl ?h48) ?_; (case h48 => (simp)))
      refine ak ?_
      -- END 2 (end)
      show ci _ _ _ _ .normal _;exact ⟨rfl, _, _, dX rfl, bp _, rfl, t13, rfl⟩
  · first | refine aH rfl (ai (i := 0) aa rfl rfl rfl rfl) ?_ | refine aH rfl (ai (i := 1) aa rfl rfl rfl rfl) ?_
    show AI _ _ _ _ _ _ #[true, true, true, false, false, false, true, false, false, true, true, true, true, false, false, false] _
    first | (refine aB (i := 13) rfl rfl (by kernel_rfl) (by kernel_rfl) (by kernel_rfl) (fun _ _ h => by obtain ⟨_, _, _, h, _⟩ := h; cases h) (aU aa rfl) ?_) | (refine aB (i := 13) rfl rfl (by kernel_rfl) (by kernel_rfl) (by kernel_rfl) (fun _ _ h => by obtain ⟨_, _, _, h, _⟩ := h; cases h) (cn aa rfl) ?_)
    show AI _ _ _ _ _ _ #[true, true, true, false, false, false, true, false, false, true, true, true, true, true, false, false] _;refine aE (i := 3) (by kernel_rfl) rfl rfl ?_
    first | refine aH rfl (ai (i := 0) aa rfl rfl rfl rfl) ?_ | refine aH rfl (ai (i := 1) aa rfl rfl rfl rfl) ?_
    show AI _ _ _ _ _ _ #[true, true, true, true, false, false, true, false, false, true, true, true, true, true, false, false] _
    first | (refine aB (i := 4) rfl rfl (by kernel_rfl) (by kernel_rfl) (by kernel_rfl) (fun _ _ h => by obtain ⟨_, _, _, h, _⟩ := h; cases h) (fw aa rfl) ?_) | (refine aB (i := 4) rfl rfl (by kernel_rfl) (by kernel_rfl) (by kernel_rfl) (fun _ _ h => by obtain ⟨_, _, _, h, _⟩ := h; cases h) (opS_cap_vw aa rfl) ?_)
    show AI _ _ _ _ _ _ #[true, true, true, true, true, false, true, false, false, true, true, true, true, true, false, false] _
    refine aB (i := 5) rfl rfl (by kernel_rfl) (by kernel_rfl) (by kernel_rfl) (fun _ _ h => by obtain ⟨_, _, _, h, _⟩ := h; cases h) (lO rfl rfl ?h50) ?_; (case h50 => (omega))
    show AI _ _ _ _ _ _ #[true, true, true, true, true, true, true, false, false, true, true, true, true, true, false, false] _
    refine aB (i := 7) rfl rfl (by kernel_rfl) (by kernel_rfl) (by kernel_rfl) (fun _ _ h => by obtain ⟨_, _, _, h, _⟩ := h; cases h) (iO rfl rfl ?h52) ?_; (case h52 => (omega))
    show AI _ _ _ _ _ _ #[true, true, true, true, true, true, true, true, false, true, true, true, true, true, false, false] _;refine aE (i := 8) (by kernel_rfl) rfl rfl ?_
    refine dc rfl (gK (m := n) (ps := #[3]) (t0 := 22) Tryz.func144 ⟨by kernel_rfl, by kernel_rfl, by kernel_rfl, by kernel_rfl⟩ aa rfl ?h55 ?h56) ?_; (case h55 => (omega)); (case h56 => (first | omega | (simp; omega)))
    rintro _ _ ⟨t13, rfl, rfl⟩;show AI _ _ _ _ _ _ #[true, true, true, true, true, true, true, true, true, true, true, true, true, true, false, false] _
    refine aB (i := 14) rfl rfl (by kernel_rfl) (by kernel_rfl) (by kernel_rfl) (fun _ _ h => by obtain ⟨_, _, _, h, _⟩ := h; cases h) (iy (E := Enc.byte) aa (by kernel_rfl) rfl rfl rfl ?h57) ?_; (case h57 => (first | rfl | omega))
    show AI _ _ _ _ _ _ #[true, true, true, true, true, true, true, true, true, true, true, true, true, true, true, false] _
    first | (refine aB (i := 15) rfl rfl (by kernel_rfl) (by kernel_rfl) (by kernel_rfl) (fun _ _ h => by obtain ⟨_, _, _, h, _⟩ := h; cases h) (ay (av := slE _ _ _) rfl) ?_) | (refine aB (i := 15) rfl rfl (by kernel_rfl) (by kernel_rfl) (by kernel_rfl) (fun _ _ h => by obtain ⟨_, _, _, h, _⟩ := h; cases h) (ay (av := .v _) rfl) ?_) | (refine aB (i := 15) rfl rfl (by kernel_rfl) (by kernel_rfl) (by kernel_rfl) (fun _ _ h => by obtain ⟨_, _, _, h, _⟩ := h; cases h) (ay (av := .vw _ _ _ _) rfl) ?_)
    show AI _ _ _ _ _ _ #[true, true, true, true, true, true, true, true, true, true, true, true, true, true, true, true] _;refine aZ rfl <| aj <| ac ?_;show AR _ _ _ _ _ [0, 1, 2, 3, 4, 5] _;refine ao rfl rfl ?_
    first | (refine an rfl rfl (ag (av := slE _ _ _) rfl) ?_) | (refine an rfl rfl (ag (av := .v _) rfl) ?_) | (refine an rfl rfl (ag (av := .vw _ _ _ _) rfl) ?_)
    refine ao rfl rfl ?_
    first | (refine an rfl rfl (ag (av := .pt _ _) rfl) ?_) | (refine an rfl rfl (ag (av := .cp _) rfl) ?_) | (refine an rfl rfl (ag (av := .v _) rfl) ?_)
    refine ao rfl rfl ?_
    first | (refine an rfl rfl (am rfl) ?_) | (refine an rfl rfl (bg rfl) ?_) | (refine an rfl rfl (bf rfl) ?_)
    refine ao rfl rfl <| an rfl rfl (ah (n := 1) (by kernel_rfl) rfl) <| ao rfl rfl ?_
    first | refine an rfl rfl (aI aa rfl rfl) ?_ | refine bM rfl rfl (ai (i := 0) aa rfl rfl rfl rfl) ?_ | refine bM rfl rfl (ai (i := 1) aa rfl rfl rfl rfl) ?_
    refine ao rfl rfl ?_
    first | (refine bM rfl rfl (OpS.opR (hM (E := Enc.byte) aa (by kernel_rfl) rfl rfl) _) ?_) | (refine bM rfl rfl (fx (E := Enc.byte) (i := 0) aa (by kernel_rfl) rfl rfl rfl ?h60 ?h61) ?_; (case h60 => (first | omega | (simp; omega))); (case h61 => (first | omega | (simp; omega)))) | (refine bM rfl rfl (fx (E := Enc.byte) (i := 1) aa (by kernel_rfl) rfl rfl rfl ?h62 ?h63) ?_; (case h62 => (first | omega | (simp; omega))); (case h63 => (first | omega | (simp; omega)))) | (refine bM rfl rfl (eU (i := 0) aa (by kernel_rfl) rfl rfl rfl ?h64 ?h65) ?_; (case h64 => (first | omega | (simp; omega))); (case h65 => (first | omega | (simp; omega)))) | (refine bM rfl rfl (eU (i := 1) aa (by kernel_rfl) rfl rfl rfl ?h66 ?h67) ?_; (case h66 => (first | omega | (simp; omega))); (case h67 => (first | omega | (simp; omega))))
    refine ak <| ac ?_;show AR _ _ _ _ _ [0, 1, 2, 3, 4] _;refine ao rfl rfl ?_
    first | (refine an rfl rfl (ag (av := .pt _ _) rfl) ?_) | (refine an rfl rfl (ag (av := .cp _) rfl) ?_) | (refine an rfl rfl (ag (av := .v _) rfl) ?_)
    refine ao rfl rfl ?_
    first | (refine an rfl rfl (ag (av := slE _ _ _) rfl) ?_) | (refine an rfl rfl (ag (av := .v _) rfl) ?_) | (refine an rfl rfl (ag (av := .vw _ _ _ _) rfl) ?_)
    refine ao rfl rfl ?_
    first | (refine an rfl rfl (am rfl) ?_) | (refine an rfl rfl (bg rfl) ?_) | (refine an rfl rfl (bf rfl) ?_)
    refine ao rfl rfl <| an rfl rfl (ah (n := 1) (by kernel_rfl) rfl) <| ao rfl rfl ?_
    first | (refine cJ rfl (ar (i := 0) (c := slE _ _ _) (by kernel_rfl) rfl rfl rfl rfl ?h69) ?_; (case h69 => (simp))) | (refine cJ rfl (ar (i := 0) (c := .v _) (by kernel_rfl) rfl rfl rfl rfl ?h70) ?_; (case h70 => (simp))) | (refine cJ rfl (ar (i := 0) (c := .vw _ _ _ _) (by kernel_rfl) rfl rfl rfl rfl ?h71) ?_; (case h71 => (simp))) | (refine cJ rfl (ar (i := 1) (c := slE _ _ _) (by kernel_rfl) rfl rfl rfl rfl ?h72) ?_; (case h72 => (simp))) | (refine cJ rfl (ar (i := 1) (c := .v _) (by kernel_rfl) rfl rfl rfl rfl ?h73) ?_; (case h73 => (simp))) | (refine cJ rfl (ar (i := 1) (c := .vw _ _ _ _) (by kernel_rfl) rfl rfl rfl rfl ?h74) ?_; (case h74 => (simp)))
    refine ak ?_
    -- END 3 (end)
    show ci _ _ _ _ .normal _;exact ⟨rfl, _, _, dX rfl, bp _, rfl, t13, rfl⟩
set_option maxRecDepth 100000 in
set_option maxHeartbeats 1000000 in
theorem lZ (o : Nat) (a : AV) (ha : a = .v (.pointer none) ∨ a = .pt o 0) (n : Nat) (hn : n ≤ 1000000000) (hz : n = 0) :
    ACalls Tryz.prog 125 [.pt o 0, i64 n] [.obj o [a, gu], .ty o 149] (fun e A' => e = .ret (.tup []) ∧ A' = [.obj o [.pt o 0, gu], .ty o 149]) := by
  refine aA Tryz.func125 rfl rfl ?_;show AW _ _ 25 _ _ _;refine aj <| ac ?_;show AR _ _ _ _ _ [0, 1] _;refine ao rfl rfl ?_
  first | (refine an rfl rfl (ag (av := .pt _ _) rfl) ?_) | (refine an rfl rfl (ag (av := .cp _) rfl) ?_) | (refine an rfl rfl (ag (av := .v _) rfl) ?_)
  refine ao rfl rfl <| ee [] rfl en136 rfl (fi  o a gu ha) ?p1 ?k1 ?q1
  (case p1 => (exact bG _))
  (case q1 => (rintro c A' ⟨h, _⟩; cases h))
  rintro av A' ⟨h, rfl⟩; cases h
  refine ak <| aj <| aj <| ac ?_;show AR _ _ _ _ _ [0, 1] _;refine ao rfl rfl <| an rfl rfl (ag (av := .v _) rfl) <| ao rfl rfl <| an rfl rfl (cf rfl rfl) <| ak <| aG rfl (fun c1 => ?_) (fun c1 => ?_)
  · have c1p := c1; try simp only [decide_eq_true_eq, decide_eq_false_iff_not, Bool.not_eq_true', Bool.not_eq_false', Bool.not_true, Bool.not_false, Bool.not_eq_eq_eq_not] at c1p
    refine ac ?_;show AR _ _ _ _ _ [0, 1] _;refine ao rfl rfl <| an rfl rfl (bm (a := .v _) al rfl rfl) <| ao rfl rfl ?_
    exfalso; first | omega | simp_all
  · have c1p := c1; try simp only [decide_eq_true_eq, decide_eq_false_iff_not, Bool.not_eq_true', Bool.not_eq_false', Bool.not_true, Bool.not_false, Bool.not_eq_eq_eq_not] at c1p
    refine aM <| aj <| bn (by kernel_rfl) ?_;show AI _ _ _ _ _ 13 (Array.replicate 13 false) _
    first | (refine aB (i := 0) rfl rfl (by kernel_rfl) (by kernel_rfl) (by kernel_rfl) (fun _ _ h => by obtain ⟨_, _, _, h, _⟩ := h; cases h) (ag (av := .pt _ _) rfl) ?_) | (refine aB (i := 0) rfl rfl (by kernel_rfl) (by kernel_rfl) (by kernel_rfl) (fun _ _ h => by obtain ⟨_, _, _, h, _⟩ := h; cases h) (ag (av := .cp _) rfl) ?_) | (refine aB (i := 0) rfl rfl (by kernel_rfl) (by kernel_rfl) (by kernel_rfl) (fun _ _ h => by obtain ⟨_, _, _, h, _⟩ := h; cases h) (ag (av := .v _) rfl) ?_)
    show AI _ _ _ _ _ _ #[true, false, false, false, false, false, false, false, false, false, false, false, false] _
    first | (refine aB (i := 1) rfl rfl (by kernel_rfl) (by kernel_rfl) (by kernel_rfl) (fun _ _ h => by obtain ⟨_, _, _, h, _⟩ := h; cases h) (am rfl) ?_) | (refine aB (i := 1) rfl rfl (by kernel_rfl) (by kernel_rfl) (by kernel_rfl) (fun _ _ h => by obtain ⟨_, _, _, h, _⟩ := h; cases h) (bg rfl) ?_) | (refine aB (i := 1) rfl rfl (by kernel_rfl) (by kernel_rfl) (by kernel_rfl) (fun _ _ h => by obtain ⟨_, _, _, h, _⟩ := h; cases h) (bf rfl) ?_)
    show AI _ _ _ _ _ _ #[true, true, false, false, false, false, false, false, false, false, false, false, false] _;refine aB (i := 2) rfl rfl (by kernel_rfl) (by kernel_rfl) (by kernel_rfl) (fun _ _ h => by obtain ⟨_, _, _, h, _⟩ := h; cases h) (ah (n := 1) (by kernel_rfl) rfl) ?_;show AI _ _ _ _ _ _ #[true, true, true, false, false, false, false, false, false, false, false, false, false] _
    first | (refine aB (i := 5) rfl rfl (by kernel_rfl) (by kernel_rfl) (by kernel_rfl) (fun _ _ h => by obtain ⟨_, _, _, h, _⟩ := h; cases h) (ag (av := .pt _ _) rfl) ?_) | (refine aB (i := 5) rfl rfl (by kernel_rfl) (by kernel_rfl) (by kernel_rfl) (fun _ _ h => by obtain ⟨_, _, _, h, _⟩ := h; cases h) (ag (av := .cp _) rfl) ?_) | (refine aB (i := 5) rfl rfl (by kernel_rfl) (by kernel_rfl) (by kernel_rfl) (fun _ _ h => by obtain ⟨_, _, _, h, _⟩ := h; cases h) (ag (av := .v _) rfl) ?_)
    show AI _ _ _ _ _ _ #[true, true, true, false, false, true, false, false, false, false, false, false, false] _
    first | (refine aB (i := 6) rfl rfl (by kernel_rfl) (by kernel_rfl) (by kernel_rfl) (fun _ _ h => by obtain ⟨_, _, _, h, _⟩ := h; cases h) (am rfl) ?_) | (refine aB (i := 6) rfl rfl (by kernel_rfl) (by kernel_rfl) (by kernel_rfl) (fun _ _ h => by obtain ⟨_, _, _, h, _⟩ := h; cases h) (bg rfl) ?_) | (refine aB (i := 6) rfl rfl (by kernel_rfl) (by kernel_rfl) (by kernel_rfl) (fun _ _ h => by obtain ⟨_, _, _, h, _⟩ := h; cases h) (bf rfl) ?_)
    show AI _ _ _ _ _ _ #[true, true, true, false, false, true, true, false, false, false, false, false, false] _;refine aB (i := 7) rfl rfl (by kernel_rfl) (by kernel_rfl) (by kernel_rfl) (fun _ _ h => by obtain ⟨_, _, _, h, _⟩ := h; cases h) (ah (n := 1) (by kernel_rfl) rfl) ?_;show AI _ _ _ _ _ _ #[true, true, true, false, false, true, true, true, false, false, false, false, false] _;refine aB (i := 11) rfl rfl (by kernel_rfl) (by kernel_rfl) (by kernel_rfl) (fun _ _ h => by obtain ⟨_, _, _, h, _⟩ := h; cases h) (ag (av := .v _) rfl) ?_;show AI _ _ _ _ _ _ #[true, true, true, false, false, true, true, true, false, false, false, true, false] _;refine cj (i := 3) (j := 8) (by kernel_rfl) rfl rfl rfl rfl ?_ ?_
    · first | refine aH rfl (ai (i := 0) aa rfl rfl rfl rfl) ?_ | refine aH rfl (ai (i := 1) aa rfl rfl rfl rfl) ?_
      show AI _ _ _ _ _ _ #[true, true, true, true, false, true, true, true, false, false, false, true, false] _
      first | (refine aB (i := 4) rfl rfl (by kernel_rfl) (by kernel_rfl) (by kernel_rfl) (fun _ _ h => by obtain ⟨_, _, _, h, _⟩ := h; cases h) (fw aa rfl) ?_) | (refine aB (i := 4) rfl rfl (by kernel_rfl) (by kernel_rfl) (by kernel_rfl) (fun _ _ h => by obtain ⟨_, _, _, h, _⟩ := h; cases h) (opS_cap_vw aa rfl) ?_)
      show AI _ _ _ _ _ _ #[true, true, true, true, true, true, true, true, false, false, false, true, false] _;refine aE (i := 8) (by kernel_rfl) rfl rfl ?_
      first | refine aH rfl (ai (i := 0) aa rfl rfl rfl rfl) ?_ | refine aH rfl (ai (i := 1) aa rfl rfl rfl rfl) ?_
      show AI _ _ _ _ _ _ #[true, true, true, true, true, true, true, true, true, false, false, true, false] _
      first | (refine aB (i := 9) rfl rfl (by kernel_rfl) (by kernel_rfl) (by kernel_rfl) (fun _ _ h => by obtain ⟨_, _, _, h, _⟩ := h; cases h) (aU aa rfl) ?_) | (refine aB (i := 9) rfl rfl (by kernel_rfl) (by kernel_rfl) (by kernel_rfl) (fun _ _ h => by obtain ⟨_, _, _, h, _⟩ := h; cases h) (cn aa rfl) ?_)
      show AI _ _ _ _ _ _ #[true, true, true, true, true, true, true, true, true, true, false, true, false] _
      refine aB (i := 10) rfl rfl (by kernel_rfl) (by kernel_rfl) (by kernel_rfl) (fun _ _ h => by obtain ⟨_, _, _, h, _⟩ := h; cases h) (hZ rfl rfl ?h2) ?_; (case h2 => (omega))
      show AI _ _ _ _ _ _ #[true, true, true, true, true, true, true, true, true, true, true, true, false] _;refine aB (i := 12) rfl rfl (by kernel_rfl) (by kernel_rfl) (by kernel_rfl) (fun _ _ h => by obtain ⟨_, _, _, h, _⟩ := h; cases h) (cf rfl rfl) ?_;show AI _ _ _ _ _ _ #[true, true, true, true, true, true, true, true, true, true, true, true, true] _;refine aZ rfl <| aG rfl (fun c2 => ?_) (fun c2 => ?_)
      · have c2p := c2; try simp only [decide_eq_true_eq, decide_eq_false_iff_not, Bool.not_eq_true', Bool.not_eq_false', Bool.not_true, Bool.not_false, Bool.not_eq_eq_eq_not] at c2p
        refine ac ?_;show AR _ _ _ _ _ [0, 1, 2] _;refine ao rfl rfl ?_
        first | (refine an rfl rfl (ag (av := .pt _ _) rfl) ?_) | (refine an rfl rfl (ag (av := .cp _) rfl) ?_) | (refine an rfl rfl (ag (av := .v _) rfl) ?_)
        refine ao rfl rfl <| an rfl rfl (ag (av := .v _) rfl) <| ao rfl rfl <| ee [.ty o 149] rfl en137 rfl (gg  o (.pt o 0) n hn) ?p2 ?k2 ?q2
        (case p2 => (exact bG _))
        (case q2 => (rintro c A' ⟨h, _⟩; cases h))
        rintro av A' ⟨h, t24, rfl⟩; cases h
        refine ak ?_
        -- END 1 (end)
        show ci _ _ _ _ .normal _
        first | exact ⟨rfl, _, _, dX rfl, bp _, rfl, rfl⟩ | (exfalso; omega)
      · have c2p := c2; try simp only [decide_eq_true_eq, decide_eq_false_iff_not, Bool.not_eq_true', Bool.not_eq_false', Bool.not_true, Bool.not_false, Bool.not_eq_eq_eq_not] at c2p
        refine aM ?_
        -- END 2 (end)
        show ci _ _ _ _ .normal _
        first | exact ⟨rfl, _, _, dX rfl, bp _, rfl, rfl⟩ | (exfalso; omega)
    · first | refine aH rfl (ai (i := 0) aa rfl rfl rfl rfl) ?_ | refine aH rfl (ai (i := 1) aa rfl rfl rfl rfl) ?_
      show AI _ _ _ _ _ _ #[true, true, true, false, false, true, true, true, true, false, false, true, false] _
      first | (refine aB (i := 9) rfl rfl (by kernel_rfl) (by kernel_rfl) (by kernel_rfl) (fun _ _ h => by obtain ⟨_, _, _, h, _⟩ := h; cases h) (aU aa rfl) ?_) | (refine aB (i := 9) rfl rfl (by kernel_rfl) (by kernel_rfl) (by kernel_rfl) (fun _ _ h => by obtain ⟨_, _, _, h, _⟩ := h; cases h) (cn aa rfl) ?_)
      show AI _ _ _ _ _ _ #[true, true, true, false, false, true, true, true, true, true, false, true, false] _;refine aE (i := 3) (by kernel_rfl) rfl rfl ?_
      first | refine aH rfl (ai (i := 0) aa rfl rfl rfl rfl) ?_ | refine aH rfl (ai (i := 1) aa rfl rfl rfl rfl) ?_
      show AI _ _ _ _ _ _ #[true, true, true, true, false, true, true, true, true, true, false, true, false] _
      first | (refine aB (i := 4) rfl rfl (by kernel_rfl) (by kernel_rfl) (by kernel_rfl) (fun _ _ h => by obtain ⟨_, _, _, h, _⟩ := h; cases h) (fw aa rfl) ?_) | (refine aB (i := 4) rfl rfl (by kernel_rfl) (by kernel_rfl) (by kernel_rfl) (fun _ _ h => by obtain ⟨_, _, _, h, _⟩ := h; cases h) (opS_cap_vw aa rfl) ?_)
      show AI _ _ _ _ _ _ #[true, true, true, true, true, true, true, true, true, true, false, true, false] _
      refine aB (i := 10) rfl rfl (by kernel_rfl) (by kernel_rfl) (by kernel_rfl) (fun _ _ h => by obtain ⟨_, _, _, h, _⟩ := h; cases h) (hZ rfl rfl ?h4) ?_; (case h4 => (omega))
      show AI _ _ _ _ _ _ #[true, true, true, true, true, true, true, true, true, true, true, true, false] _;refine aB (i := 12) rfl rfl (by kernel_rfl) (by kernel_rfl) (by kernel_rfl) (fun _ _ h => by obtain ⟨_, _, _, h, _⟩ := h; cases h) (cf rfl rfl) ?_;show AI _ _ _ _ _ _ #[true, true, true, true, true, true, true, true, true, true, true, true, true] _;refine aZ rfl <| aG rfl (fun c3 => ?_) (fun c3 => ?_)
      · have c3p := c3; try simp only [decide_eq_true_eq, decide_eq_false_iff_not, Bool.not_eq_true', Bool.not_eq_false', Bool.not_true, Bool.not_false, Bool.not_eq_eq_eq_not] at c3p
        refine ac ?_;show AR _ _ _ _ _ [0, 1, 2] _;refine ao rfl rfl ?_
        first | (refine an rfl rfl (ag (av := .pt _ _) rfl) ?_) | (refine an rfl rfl (ag (av := .cp _) rfl) ?_) | (refine an rfl rfl (ag (av := .v _) rfl) ?_)
        refine ao rfl rfl <| an rfl rfl (ag (av := .v _) rfl) <| ao rfl rfl <| ee [.ty o 149] rfl en137 rfl (gg  o (.pt o 0) n hn) ?p3 ?k3 ?q3
        (case p3 => (exact bG _))
        (case q3 => (rintro c A' ⟨h, _⟩; cases h))
        rintro av A' ⟨h, t24, rfl⟩; cases h
        refine ak ?_
        -- END 3 (end)
        show ci _ _ _ _ .normal _
        first | exact ⟨rfl, _, _, dX rfl, bp _, rfl, rfl⟩ | (exfalso; omega)
      · have c3p := c3; try simp only [decide_eq_true_eq, decide_eq_false_iff_not, Bool.not_eq_true', Bool.not_eq_false', Bool.not_true, Bool.not_false, Bool.not_eq_eq_eq_not] at c3p
        refine aM ?_
        -- END 4 (end)
        show ci _ _ _ _ .normal _
        first | exact ⟨rfl, _, _, dX rfl, bp _, rfl, rfl⟩ | (exfalso; omega)
set_option maxRecDepth 100000 in
set_option maxHeartbeats 1000000 in
theorem ma (o : Nat) (a : AV) (ha : a = .v (.pointer none) ∨ a = .pt o 0) (n : Nat) (hn : n ≤ 1000000000) (hz : 0 < n) :
    ACalls Tryz.prog 125 [.pt o 0, i64 n] [.obj o [a, gu], .ty o 149] (fun e A' => e = .ret (.tup []) ∧ ∃ t', A' = [.tok t' 5, .obj o [.pt o 0, slE Enc.byte [] (some t')], .ty o 149]) := by
  refine aA Tryz.func125 rfl rfl ?_;show AW _ _ 25 _ _ _;refine aj <| ac ?_;show AR _ _ _ _ _ [0, 1] _;refine ao rfl rfl ?_
  first | (refine an rfl rfl (ag (av := .pt _ _) rfl) ?_) | (refine an rfl rfl (ag (av := .cp _) rfl) ?_) | (refine an rfl rfl (ag (av := .v _) rfl) ?_)
  refine ao rfl rfl <| ee [] rfl en136 rfl (fi  o a gu ha) ?p1 ?k1 ?q1
  (case p1 => (exact bG _))
  (case q1 => (rintro c A' ⟨h, _⟩; cases h))
  rintro av A' ⟨h, rfl⟩; cases h
  refine ak <| aj <| aj <| ac ?_;show AR _ _ _ _ _ [0, 1] _;refine ao rfl rfl <| an rfl rfl (ag (av := .v _) rfl) <| ao rfl rfl <| an rfl rfl (cf rfl rfl) <| ak <| aG rfl (fun c1 => ?_) (fun c1 => ?_)
  · have c1p := c1; try simp only [decide_eq_true_eq, decide_eq_false_iff_not, Bool.not_eq_true', Bool.not_eq_false', Bool.not_true, Bool.not_false, Bool.not_eq_eq_eq_not] at c1p
    refine ac ?_;show AR _ _ _ _ _ [0, 1] _;refine ao rfl rfl <| an rfl rfl (bm (a := .v _) al rfl rfl) <| ao rfl rfl ?_
    exfalso; first | omega | simp_all
  · have c1p := c1; try simp only [decide_eq_true_eq, decide_eq_false_iff_not, Bool.not_eq_true', Bool.not_eq_false', Bool.not_true, Bool.not_false, Bool.not_eq_eq_eq_not] at c1p
    refine aM <| aj <| bn (by kernel_rfl) ?_;show AI _ _ _ _ _ 13 (Array.replicate 13 false) _
    first | (refine aB (i := 0) rfl rfl (by kernel_rfl) (by kernel_rfl) (by kernel_rfl) (fun _ _ h => by obtain ⟨_, _, _, h, _⟩ := h; cases h) (ag (av := .pt _ _) rfl) ?_) | (refine aB (i := 0) rfl rfl (by kernel_rfl) (by kernel_rfl) (by kernel_rfl) (fun _ _ h => by obtain ⟨_, _, _, h, _⟩ := h; cases h) (ag (av := .cp _) rfl) ?_) | (refine aB (i := 0) rfl rfl (by kernel_rfl) (by kernel_rfl) (by kernel_rfl) (fun _ _ h => by obtain ⟨_, _, _, h, _⟩ := h; cases h) (ag (av := .v _) rfl) ?_)
    show AI _ _ _ _ _ _ #[true, false, false, false, false, false, false, false, false, false, false, false, false] _
    first | (refine aB (i := 1) rfl rfl (by kernel_rfl) (by kernel_rfl) (by kernel_rfl) (fun _ _ h => by obtain ⟨_, _, _, h, _⟩ := h; cases h) (am rfl) ?_) | (refine aB (i := 1) rfl rfl (by kernel_rfl) (by kernel_rfl) (by kernel_rfl) (fun _ _ h => by obtain ⟨_, _, _, h, _⟩ := h; cases h) (bg rfl) ?_) | (refine aB (i := 1) rfl rfl (by kernel_rfl) (by kernel_rfl) (by kernel_rfl) (fun _ _ h => by obtain ⟨_, _, _, h, _⟩ := h; cases h) (bf rfl) ?_)
    show AI _ _ _ _ _ _ #[true, true, false, false, false, false, false, false, false, false, false, false, false] _;refine aB (i := 2) rfl rfl (by kernel_rfl) (by kernel_rfl) (by kernel_rfl) (fun _ _ h => by obtain ⟨_, _, _, h, _⟩ := h; cases h) (ah (n := 1) (by kernel_rfl) rfl) ?_;show AI _ _ _ _ _ _ #[true, true, true, false, false, false, false, false, false, false, false, false, false] _
    first | (refine aB (i := 5) rfl rfl (by kernel_rfl) (by kernel_rfl) (by kernel_rfl) (fun _ _ h => by obtain ⟨_, _, _, h, _⟩ := h; cases h) (ag (av := .pt _ _) rfl) ?_) | (refine aB (i := 5) rfl rfl (by kernel_rfl) (by kernel_rfl) (by kernel_rfl) (fun _ _ h => by obtain ⟨_, _, _, h, _⟩ := h; cases h) (ag (av := .cp _) rfl) ?_) | (refine aB (i := 5) rfl rfl (by kernel_rfl) (by kernel_rfl) (by kernel_rfl) (fun _ _ h => by obtain ⟨_, _, _, h, _⟩ := h; cases h) (ag (av := .v _) rfl) ?_)
    show AI _ _ _ _ _ _ #[true, true, true, false, false, true, false, false, false, false, false, false, false] _
    first | (refine aB (i := 6) rfl rfl (by kernel_rfl) (by kernel_rfl) (by kernel_rfl) (fun _ _ h => by obtain ⟨_, _, _, h, _⟩ := h; cases h) (am rfl) ?_) | (refine aB (i := 6) rfl rfl (by kernel_rfl) (by kernel_rfl) (by kernel_rfl) (fun _ _ h => by obtain ⟨_, _, _, h, _⟩ := h; cases h) (bg rfl) ?_) | (refine aB (i := 6) rfl rfl (by kernel_rfl) (by kernel_rfl) (by kernel_rfl) (fun _ _ h => by obtain ⟨_, _, _, h, _⟩ := h; cases h) (bf rfl) ?_)
    show AI _ _ _ _ _ _ #[true, true, true, false, false, true, true, false, false, false, false, false, false] _;refine aB (i := 7) rfl rfl (by kernel_rfl) (by kernel_rfl) (by kernel_rfl) (fun _ _ h => by obtain ⟨_, _, _, h, _⟩ := h; cases h) (ah (n := 1) (by kernel_rfl) rfl) ?_;show AI _ _ _ _ _ _ #[true, true, true, false, false, true, true, true, false, false, false, false, false] _;refine aB (i := 11) rfl rfl (by kernel_rfl) (by kernel_rfl) (by kernel_rfl) (fun _ _ h => by obtain ⟨_, _, _, h, _⟩ := h; cases h) (ag (av := .v _) rfl) ?_;show AI _ _ _ _ _ _ #[true, true, true, false, false, true, true, true, false, false, false, true, false] _;refine cj (i := 3) (j := 8) (by kernel_rfl) rfl rfl rfl rfl ?_ ?_
    · first | refine aH rfl (ai (i := 0) aa rfl rfl rfl rfl) ?_ | refine aH rfl (ai (i := 1) aa rfl rfl rfl rfl) ?_
      show AI _ _ _ _ _ _ #[true, true, true, true, false, true, true, true, false, false, false, true, false] _
      first | (refine aB (i := 4) rfl rfl (by kernel_rfl) (by kernel_rfl) (by kernel_rfl) (fun _ _ h => by obtain ⟨_, _, _, h, _⟩ := h; cases h) (fw aa rfl) ?_) | (refine aB (i := 4) rfl rfl (by kernel_rfl) (by kernel_rfl) (by kernel_rfl) (fun _ _ h => by obtain ⟨_, _, _, h, _⟩ := h; cases h) (opS_cap_vw aa rfl) ?_)
      show AI _ _ _ _ _ _ #[true, true, true, true, true, true, true, true, false, false, false, true, false] _;refine aE (i := 8) (by kernel_rfl) rfl rfl ?_
      first | refine aH rfl (ai (i := 0) aa rfl rfl rfl rfl) ?_ | refine aH rfl (ai (i := 1) aa rfl rfl rfl rfl) ?_
      show AI _ _ _ _ _ _ #[true, true, true, true, true, true, true, true, true, false, false, true, false] _
      first | (refine aB (i := 9) rfl rfl (by kernel_rfl) (by kernel_rfl) (by kernel_rfl) (fun _ _ h => by obtain ⟨_, _, _, h, _⟩ := h; cases h) (aU aa rfl) ?_) | (refine aB (i := 9) rfl rfl (by kernel_rfl) (by kernel_rfl) (by kernel_rfl) (fun _ _ h => by obtain ⟨_, _, _, h, _⟩ := h; cases h) (cn aa rfl) ?_)
      show AI _ _ _ _ _ _ #[true, true, true, true, true, true, true, true, true, true, false, true, false] _
      refine aB (i := 10) rfl rfl (by kernel_rfl) (by kernel_rfl) (by kernel_rfl) (fun _ _ h => by obtain ⟨_, _, _, h, _⟩ := h; cases h) (hZ rfl rfl ?h2) ?_; (case h2 => (omega))
      show AI _ _ _ _ _ _ #[true, true, true, true, true, true, true, true, true, true, true, true, false] _;refine aB (i := 12) rfl rfl (by kernel_rfl) (by kernel_rfl) (by kernel_rfl) (fun _ _ h => by obtain ⟨_, _, _, h, _⟩ := h; cases h) (cf rfl rfl) ?_;show AI _ _ _ _ _ _ #[true, true, true, true, true, true, true, true, true, true, true, true, true] _;refine aZ rfl <| aG rfl (fun c2 => ?_) (fun c2 => ?_)
      · have c2p := c2; try simp only [decide_eq_true_eq, decide_eq_false_iff_not, Bool.not_eq_true', Bool.not_eq_false', Bool.not_true, Bool.not_false, Bool.not_eq_eq_eq_not] at c2p
        refine ac ?_;show AR _ _ _ _ _ [0, 1, 2] _;refine ao rfl rfl ?_
        first | (refine an rfl rfl (ag (av := .pt _ _) rfl) ?_) | (refine an rfl rfl (ag (av := .cp _) rfl) ?_) | (refine an rfl rfl (ag (av := .v _) rfl) ?_)
        refine ao rfl rfl <| an rfl rfl (ag (av := .v _) rfl) <| ao rfl rfl <| ee [.ty o 149] rfl en137 rfl (gg  o (.pt o 0) n hn) ?p2 ?k2 ?q2
        (case p2 => (exact bG _))
        (case q2 => (rintro c A' ⟨h, _⟩; cases h))
        rintro av A' ⟨h, t24, rfl⟩; cases h
        refine ak ?_
        -- END 1 (end)
        show ci _ _ _ _ .normal _
        first | exact ⟨rfl, _, _, dX rfl, bp _, rfl, t24, rfl⟩ | (exfalso; omega)
      · have c2p := c2; try simp only [decide_eq_true_eq, decide_eq_false_iff_not, Bool.not_eq_true', Bool.not_eq_false', Bool.not_true, Bool.not_false, Bool.not_eq_eq_eq_not] at c2p
        refine aM ?_
        -- END 2 (end)
        show ci _ _ _ _ .normal _
        first | exact ⟨rfl, _, _, dX rfl, bp _, rfl, t24, rfl⟩ | (exfalso; omega)
    · first | refine aH rfl (ai (i := 0) aa rfl rfl rfl rfl) ?_ | refine aH rfl (ai (i := 1) aa rfl rfl rfl rfl) ?_
      show AI _ _ _ _ _ _ #[true, true, true, false, false, true, true, true, true, false, false, true, false] _
      first | (refine aB (i := 9) rfl rfl (by kernel_rfl) (by kernel_rfl) (by kernel_rfl) (fun _ _ h => by obtain ⟨_, _, _, h, _⟩ := h; cases h) (aU aa rfl) ?_) | (refine aB (i := 9) rfl rfl (by kernel_rfl) (by kernel_rfl) (by kernel_rfl) (fun _ _ h => by obtain ⟨_, _, _, h, _⟩ := h; cases h) (cn aa rfl) ?_)
      show AI _ _ _ _ _ _ #[true, true, true, false, false, true, true, true, true, true, false, true, false] _;refine aE (i := 3) (by kernel_rfl) rfl rfl ?_
      first | refine aH rfl (ai (i := 0) aa rfl rfl rfl rfl) ?_ | refine aH rfl (ai (i := 1) aa rfl rfl rfl rfl) ?_
      show AI _ _ _ _ _ _ #[true, true, true, true, false, true, true, true, true, true, false, true, false] _
      first | (refine aB (i := 4) rfl rfl (by kernel_rfl) (by kernel_rfl) (by kernel_rfl) (fun _ _ h => by obtain ⟨_, _, _, h, _⟩ := h; cases h) (fw aa rfl) ?_) | (refine aB (i := 4) rfl rfl (by kernel_rfl) (by kernel_rfl) (by kernel_rfl) (fun _ _ h => by obtain ⟨_, _, _, h, _⟩ := h; cases h) (opS_cap_vw aa rfl) ?_)
      show AI _ _ _ _ _ _ #[true, true, true, true, true, true, true, true, true, true, false, true, false] _
      refine aB (i := 10) rfl rfl (by kernel_rfl) (by kernel_rfl) (by kernel_rfl) (fun _ _ h => by obtain ⟨_, _, _, h, _⟩ := h; cases h) (hZ rfl rfl ?h4) ?_; (case h4 => (omega))
      show AI _ _ _ _ _ _ #[true, true, true, true, true, true, true, true, true, true, true, true, false] _;refine aB (i := 12) rfl rfl (by kernel_rfl) (by kernel_rfl) (by kernel_rfl) (fun _ _ h => by obtain ⟨_, _, _, h, _⟩ := h; cases h) (cf rfl rfl) ?_;show AI _ _ _ _ _ _ #[true, true, true, true, true, true, true, true, true, true, true, true, true] _;refine aZ rfl <| aG rfl (fun c3 => ?_) (fun c3 => ?_)
      · have c3p := c3; try simp only [decide_eq_true_eq, decide_eq_false_iff_not, Bool.not_eq_true', Bool.not_eq_false', Bool.not_true, Bool.not_false, Bool.not_eq_eq_eq_not] at c3p
        refine ac ?_;show AR _ _ _ _ _ [0, 1, 2] _;refine ao rfl rfl ?_
        first | (refine an rfl rfl (ag (av := .pt _ _) rfl) ?_) | (refine an rfl rfl (ag (av := .cp _) rfl) ?_) | (refine an rfl rfl (ag (av := .v _) rfl) ?_)
        refine ao rfl rfl <| an rfl rfl (ag (av := .v _) rfl) <| ao rfl rfl <| ee [.ty o 149] rfl en137 rfl (gg  o (.pt o 0) n hn) ?p3 ?k3 ?q3
        (case p3 => (exact bG _))
        (case q3 => (rintro c A' ⟨h, _⟩; cases h))
        rintro av A' ⟨h, t24, rfl⟩; cases h
        refine ak ?_
        -- END 3 (end)
        show ci _ _ _ _ .normal _
        first | exact ⟨rfl, _, _, dX rfl, bp _, rfl, t24, rfl⟩ | (exfalso; omega)
      · have c3p := c3; try simp only [decide_eq_true_eq, decide_eq_false_iff_not, Bool.not_eq_true', Bool.not_eq_false', Bool.not_true, Bool.not_false, Bool.not_eq_eq_eq_not] at c3p
        refine aM ?_
        -- END 4 (end)
        show ci _ _ _ _ .normal _
        first | exact ⟨rfl, _, _, dX rfl, bp _, rfl, t24, rfl⟩ | (exfalso; omega)
theorem mT (o : Nat) (a : AV) (ha : a = .v (.pointer none) ∨ a = .pt o 0) (n : Nat) (hn : n ≤ 1000000000) : ACalls Tryz.prog 125 [.pt o 0, i64 n] [.obj o [a, gu], .ty o 149] (fun e A' => e = .ret (.tup []) ∧ ∃ t', A' = [.tok t' 5, .obj o [.pt o 0, slE Enc.byte [] (some t')], .ty o 149]) := by
  by_cases hz : n = 0
  · refine (lZ  o a ha n hn hz).conv fun ae A' h F I w hI => ?_
    obtain ⟨h1, rfl⟩ := h;obtain ⟨I', t, E, hI'⟩ := lz hI 1 1 5 rfl;exact ⟨I', _, E, hI', h1, t, rfl⟩
  · exact ma  o a ha n hn (by omega)
end Go.Proofs.YtgjkjkmmgdbcoaaGreatDoor
namespace Go.Proofs.YtgjkjkmmgdbcoaaGreatDoor
open Go.RowKit Go.Av
abbrev _root_.Go.Av.az := @Tryz.underlying38
set_option maxRecDepth 100000 in
set_option maxHeartbeats 1000000 in
theorem kv (l : List (List UInt8)) (sep : List UInt8) (tl : Option Nat) (hb : sep.length * l.length + Str.total l ≤ 1000000000) (hl : l.length ≤ 1000000000) :
    ACalls Tryz.prog 110 [slE Enc.str l tl, S sep] [] (Ret (S (Str.join sep l)) []) := by
  refine aA Tryz.func110 rfl rfl ?_;show AW _ _ 75 _ _ _;refine aj <| ac ?_;show AR _ _ _ _ _ [0] _;refine ao rfl rfl <| an rfl rfl (ay (av := .v _) rfl) <| ak <| aj <| aj <| ac ?_;show AR _ _ _ _ _ [0, 1] _;refine ao rfl rfl ?_
  first | (refine an rfl rfl (ag (av := slE _ _ _) rfl) ?_) | (refine an rfl rfl (ag (av := .v _) rfl) ?_) | (refine an rfl rfl (ag (av := .vw _ _ _ _) rfl) ?_)
  refine ao rfl rfl ?_
  first | (refine an rfl rfl (aU az rfl) ?_) | (refine an rfl rfl (cn az rfl) ?_)
  refine ak <| bi <| aj <| ac ?_;show AR _ _ _ _ _ [0, 1] _;refine ao rfl rfl <| an rfl rfl (bN rfl rfl) <| ao rfl rfl <| an rfl rfl (ay (av := .v _) rfl) <| ak <| aG rfl (fun c1 => ?_) (fun c1 => ?_)
  · have c1p := c1; try simp only [decide_eq_true_eq, decide_eq_false_iff_not, Bool.not_eq_true', Bool.not_eq_false', Bool.not_true, Bool.not_false, Bool.not_eq_eq_eq_not] at c1p
    refine aj <| ac ?_;show AR _ _ _ _ _ [0] _;refine ao rfl rfl <| an rfl rfl (ay (av := .v _) rfl) <| ak <| aR ?_
    -- END 1 (ret)
    show ci _ _ _ _ .ret _
    have h0 : l = [] := List.length_eq_zero_iff.1 (by omega)
    subst h0
    (refine ⟨rfl, _, _, aV rfl ?_, ?_, ⟨rfl, rfl⟩⟩; all_goals first | exact bp _ | exact cq _ | ((repeat (first | exact bp _ | exact cq _ | refine dR _ ?_ | refine dQ _ ?_)); done) | exact Wv.refl _ | exact Wv.tok _ _ _ | exact Wv.nil _)
  · have c1p := c1; try simp only [decide_eq_true_eq, decide_eq_false_iff_not, Bool.not_eq_true', Bool.not_eq_false', Bool.not_true, Bool.not_false, Bool.not_eq_eq_eq_not] at c1p
    refine aj <| ac ?_;show AR _ _ _ _ _ [0, 1] _;refine ao rfl rfl <| an rfl rfl (bN rfl rfl) <| ao rfl rfl <| an rfl rfl (ay (av := .v _) rfl) <| ak <| aG rfl (fun c2 => ?_) (fun c2 => ?_)
    · have c2p := c2; try simp only [decide_eq_true_eq, decide_eq_false_iff_not, Bool.not_eq_true', Bool.not_eq_false', Bool.not_true, Bool.not_false, Bool.not_eq_eq_eq_not] at c2p
      refine aj <| ac ?_;show AR _ _ _ _ _ [0, 1, 2, 3] _;refine ao rfl rfl ?_
      first | (refine an rfl rfl (ag (av := slE _ _ _) rfl) ?_) | (refine an rfl rfl (ag (av := .v _) rfl) ?_) | (refine an rfl rfl (ag (av := .vw _ _ _ _) rfl) ?_)
      refine ao rfl rfl <| an rfl rfl (eS (m := 0) az (by kernel_rfl) rfl rfl ?h1 ?h2) ?_
      (case h1 => (omega))
      (case h2 => (omega))
      refine ao rfl rfl ?_
      first | refine an rfl rfl (aI al rfl rfl) ?_ | refine bM rfl rfl (ai (i := 0) al rfl rfl rfl rfl) ?_ | refine bM rfl rfl (ai (i := 1) al rfl rfl rfl rfl) ?_ | refine bM rfl rfl (ai (i := 2) al rfl rfl rfl rfl) ?_ | refine bM rfl rfl (ai (i := 3) al rfl rfl rfl rfl) ?_
      refine ao rfl rfl <| an rfl rfl (ay (av := .v _) rfl) <| ak <| aR ?_
      -- END 2 (ret)
      show ci _ _ _ _ .ret _
      rw [Str.join_one sep l (by omega) (by omega)]
      (refine ⟨rfl, _, _, aV rfl ?_, ?_, ⟨rfl, rfl⟩⟩; all_goals first | exact bp _ | exact cq _ | ((repeat (first | exact bp _ | exact cq _ | refine dR _ ?_ | refine dQ _ ?_)); done) | exact Wv.refl _ | exact Wv.tok _ _ _ | exact Wv.nil _)
    · have c2p := c2; try simp only [decide_eq_true_eq, decide_eq_false_iff_not, Bool.not_eq_true', Bool.not_eq_false', Bool.not_true, Bool.not_false, Bool.not_eq_eq_eq_not] at c2p
      have hl2 : 2 ≤ l.length := by omega
      have hm := Str.mul_bounds sep.length l.length 1000000000 (by omega) (by omega)
      refine aM <| aj <| ac ?_;show AR _ _ _ _ _ [0] _;refine ao rfl rfl <| an rfl rfl (ay (av := .v _) rfl) <| ak <| bX (X := Nat) (fun n0 => ⟨[(0, slE Enc.str l tl), (1, S sep), (5, i64 n0)], [], []⟩) (fun n0 => n0 ≤ sep.length * l.length) ?_ ?_
      · refine aj <| ac ?_;show AR _ _ _ _ _ [0, 1, 2] _;refine ao rfl rfl <| an rfl rfl (ag (av := .v _) rfl) <| ao rfl rfl <| an rfl rfl (bx al rfl) <| ao rfl rfl <| an rfl rfl (ii rfl rfl) <| ak <| aG rfl (fun c3 => ?_) (fun c3 => ?_)
        · have c3p := c3; try simp only [decide_eq_true_eq, decide_eq_false_iff_not, Bool.not_eq_true', Bool.not_eq_false', Bool.not_true, Bool.not_false, Bool.not_eq_eq_eq_not] at c3p
          refine aj <| aj <| ac ?_;show AR _ _ _ _ _ [0, 1, 2, 3, 4, 5, 6] _;refine ao rfl rfl <| an rfl rfl (ag (av := .v _) rfl) <| ao rfl rfl <| an rfl rfl (bx al rfl) <| ao rfl rfl ?_
          first | (refine an rfl rfl (ag (av := slE _ _ _) rfl) ?_) | (refine an rfl rfl (ag (av := .v _) rfl) ?_) | (refine an rfl rfl (ag (av := .vw _ _ _ _) rfl) ?_)
          refine ao rfl rfl ?_
          first | (refine an rfl rfl (aU az rfl) ?_) | (refine an rfl rfl (cn az rfl) ?_)
          refine ao rfl rfl <| an rfl rfl (hZ rfl rfl ?h4) ?_
          (case h4 => (omega))
          refine ao rfl rfl <| an rfl rfl (qv rfl rfl ?h6) ?_
          (case h6 => (omega))
          refine ao rfl rfl <| an rfl rfl (ff rfl rfl) <| ak <| aG rfl (fun c4 => ?_) (fun c4 => ?_)
          · have c4p := c4; try simp only [decide_eq_true_eq, decide_eq_false_iff_not, Bool.not_eq_true', Bool.not_eq_false', Bool.not_true, Bool.not_false, Bool.not_eq_eq_eq_not] at c4p
            exact absurd c4p (Str.quo_great _ _ 0 (by omega) (by omega) hl)
          · have c4p := c4; try simp only [decide_eq_true_eq, decide_eq_false_iff_not, Bool.not_eq_true', Bool.not_eq_false', Bool.not_true, Bool.not_false, Bool.not_eq_eq_eq_not] at c4p
            refine aM <| ac ?_;show AR _ _ _ _ _ [0, 1, 2, 3, 4, 5, 6, 7, 8] _;refine ao rfl rfl <| an rfl rfl (ag (av := .v _) rfl) <| ao rfl rfl <| an rfl rfl (ag (av := .v _) rfl) <| ao rfl rfl <| an rfl rfl (bx al rfl) <| ao rfl rfl ?_
            first | (refine an rfl rfl (ag (av := slE _ _ _) rfl) ?_) | (refine an rfl rfl (ag (av := .v _) rfl) ?_) | (refine an rfl rfl (ag (av := .vw _ _ _ _) rfl) ?_)
            refine ao rfl rfl ?_
            first | (refine an rfl rfl (aU az rfl) ?_) | (refine an rfl rfl (cn az rfl) ?_)
            refine ao rfl rfl <| an rfl rfl (hZ rfl rfl ?h8) ?_
            (case h8 => (omega))
            refine ao rfl rfl <| an rfl rfl (lO rfl rfl ?h10) ?_
            (case h10 => (omega))
            refine ao rfl rfl <| an rfl rfl (iO rfl rfl ?h12) ?_
            (case h12 => (omega))
            refine ao rfl rfl <| an rfl rfl (ay (av := .v _) rfl) <| ak ?_
            -- END 3 (cut('p', 7))
            refine ⟨(sep.length * (l.length - 1)), ?_, ?_⟩
            · exact Nat.mul_le_mul_left _ (by omega)
            · refine WK.env (bh ?_ (bh ?_ (bh ?_ (Env.le.nil _)))) ?_
              all_goals first | exact bp _ | exact cq _ | ((repeat (first | exact bp _ | exact cq _ | refine dR _ ?_ | refine dQ _ ?_)); done) | exact Wv.refl _ | exact Wv.any _ | exact Wv.tok _ _ _ | exact Wv.nil _ | (refine Wv.of_eq ?_; first | rfl | exact gb (by omega) | (exact gb (Str.mul_cast _ _ (by omega))))
        · have c3p := c3; try simp only [decide_eq_true_eq, decide_eq_false_iff_not, Bool.not_eq_true', Bool.not_eq_false', Bool.not_true, Bool.not_false, Bool.not_eq_eq_eq_not] at c3p
          refine aM ?_
          -- END 4 (cut('p', 7))
          refine ⟨0, ?_, ?_⟩
          · exact Nat.zero_le _
          · refine WK.env (bh ?_ (bh ?_ (bh ?_ (Env.le.nil _)))) ?_
            all_goals first | exact bp _ | exact cq _ | ((repeat (first | exact bp _ | exact cq _ | refine dR _ ?_ | refine dQ _ ?_)); done) | exact Wv.refl _ | exact Wv.any _ | exact Wv.tok _ _ _ | exact Wv.nil _ | (refine Wv.of_eq ?_; first | rfl | exact gb (by omega) | (simp))
      · rintro n0 hn0
        refine aj <| aj <| ac ?_;show AR _ _ _ _ _ [0, 1, 2] _;refine ao rfl rfl ?_
        first | (refine an rfl rfl (ag (av := slE _ _ _) rfl) ?_) | (refine an rfl rfl (ag (av := .v _) rfl) ?_) | (refine an rfl rfl (ag (av := .vw _ _ _ _) rfl) ?_)
        refine ao rfl rfl ?_
        first | (refine an rfl rfl (aU az rfl) ?_) | (refine an rfl rfl (cn az rfl) ?_)
        refine ao rfl rfl <| an rfl rfl (ag (av := .v _) rfl) <| ak <| bi <| dC (X := Nat × Nat) (fun (i, n) => ⟨[(0, slE Enc.str l tl), (1, S sep), (5, i64 n), (39, slE Enc.str l tl), (40, i64 l.length), (41, i64 i)], [], []⟩) (fun (i, n) => i ≤ l.length ∧ n + Str.total (l.drop i) ≤ 1000000000) (fun (i, n) => l.length - i) (0, n0) ?_ ?_ ?_
        · exact ⟨by omega, by simp; omega⟩
        · refine WK.env (bh ?_ (bh ?_ (bh ?_ (bh ?_ (bh ?_ (bh ?_ (Env.le.nil _))))))) ?_
          all_goals first | exact bp _ | exact cq _ | ((repeat (first | exact bp _ | exact cq _ | refine dR _ ?_ | refine dQ _ ?_)); done) | exact Wv.refl _ | exact Wv.any _ | exact Wv.tok _ _ _ | exact Wv.nil _ | (refine Wv.of_eq ?_; first | rfl | exact gb (by omega) | (simp))
        · rintro ⟨i, n⟩ ⟨h1, h2⟩
          refine aj <| ac ?_;show AR _ _ _ _ _ [0] _;refine ao rfl rfl <| an rfl rfl (cf rfl rfl) <| ak <| aj <| aG rfl (fun c5 => ?_) (fun c5 => ?_)
          · have c5p := c5; try simp only [decide_eq_true_eq, decide_eq_false_iff_not, Bool.not_eq_true', Bool.not_eq_false', Bool.not_true, Bool.not_false, Bool.not_eq_eq_eq_not] at c5p
            refine aM <| aj <| bi <| aj <| ac ?_;show AR _ _ _ _ _ [0, 1, 2] _;refine ao rfl rfl <| an rfl rfl (eS az (by kernel_rfl) rfl rfl rfl ?h13) ?_
            (case h13 => (omega))
            refine ao rfl rfl ?_
            first | refine an rfl rfl (aI al rfl rfl) ?_ | refine bM rfl rfl (ai (i := 0) al rfl rfl rfl rfl) ?_ | refine bM rfl rfl (ai (i := 1) al rfl rfl rfl rfl) ?_ | refine bM rfl rfl (ai (i := 2) al rfl rfl rfl rfl) ?_ | refine bM rfl rfl (ai (i := 3) al rfl rfl rfl rfl) ?_
            refine ao rfl rfl <| an rfl rfl (ay (av := .v _) rfl) <| ak <| aj <| aj <| ac ?_;show AR _ _ _ _ _ [0, 1, 2, 3, 4] _;refine ao rfl rfl <| an rfl rfl (ag (av := .v _) rfl) <| ao rfl rfl <| an rfl rfl (bx al rfl) <| ao rfl rfl <| an rfl rfl (ag (av := .v _) rfl) <| ao rfl rfl <| an rfl rfl (hZ rfl rfl ?h15) ?_
            (case h15 => (omega))
            refine ao rfl rfl <| an rfl rfl (ii rfl rfl) <| ak <| aG rfl (fun c6 => ?_) (fun c6 => ?_)
            · have c6p := c6; try simp only [decide_eq_true_eq, decide_eq_false_iff_not, Bool.not_eq_true', Bool.not_eq_false', Bool.not_true, Bool.not_false, Bool.not_eq_eq_eq_not] at c6p
              exfalso; have := Str.total_drop l i (by omega); omega
            · have c6p := c6; try simp only [decide_eq_true_eq, decide_eq_false_iff_not, Bool.not_eq_true', Bool.not_eq_false', Bool.not_true, Bool.not_false, Bool.not_eq_eq_eq_not] at c6p
              refine aM <| ac ?_;show AR _ _ _ _ _ [0, 1, 2, 3, 4] _;refine ao rfl rfl <| an rfl rfl (ag (av := .v _) rfl) <| ao rfl rfl <| an rfl rfl (ag (av := .v _) rfl) <| ao rfl rfl <| an rfl rfl (bx al rfl) <| ao rfl rfl <| an rfl rfl (iO rfl rfl ?h17) ?_
              (case h17 => (omega))
              refine ao rfl rfl <| an rfl rfl (ay (av := .v _) rfl) <| ak <| ac ?_;show AR _ _ _ _ _ [0, 1] _;refine ao rfl rfl <| an rfl rfl (iO rfl rfl ?h19) ?_
              (case h19 => (omega))
              refine ao rfl rfl <| an rfl rfl (ag (av := .v _) rfl) <| ak ?_
              -- END 5 (loop1)
              refine ⟨(i + 1, n + l[i].length), ?_, ?_, ?_⟩
              · exact ⟨by omega, by have := Str.total_drop l i (by omega); omega⟩
              · (try simp only []); omega
              · refine WK.env (bh ?_ (bh ?_ (bh ?_ (bh ?_ (bh ?_ (bh ?_ (Env.le.nil _))))))) ?_
                all_goals first | exact bp _ | exact cq _ | ((repeat (first | exact bp _ | exact cq _ | refine dR _ ?_ | refine dQ _ ?_)); done) | exact Wv.refl _ | exact Wv.any _ | exact Wv.tok _ _ _ | exact Wv.nil _ | (refine Wv.of_eq ?_; first | rfl | exact gb (by omega) | (simp))
          · have c5p := c5; try simp only [decide_eq_true_eq, decide_eq_false_iff_not, Bool.not_eq_true', Bool.not_eq_false', Bool.not_true, Bool.not_false, Bool.not_eq_eq_eq_not] at c5p
            refine dk <| aj <| ac ?_;show AR _ _ _ _ _ [0] _;refine ao rfl rfl <| AO.opx rfl rfl (pR (zs := [.pointer none, .slice none 0 0]) (by kernel_rfl)) ?_;rintro _ _ ⟨o8, rfl, rfl⟩;refine ak <| aj <| ac ?_;show AR _ _ _ _ _ [0, 1] _;refine ao rfl rfl <| an rfl rfl (ag (av := .v _) rfl) <| ao rfl rfl <| ee [] rfl en125 rfl (mT o8 (.v (.pointer none)) (.inl rfl) n (by omega)) ?p1 ?k1 ?q1
            (case p1 => (exact bG _))
            (case q1 => (rintro c A' ⟨h, _⟩; cases h))
            rintro av A' ⟨h, t57, rfl⟩; cases h
            refine ak <| aj <| ac ?_;show AR _ _ _ _ _ [0, 1, 2, 3] _;refine ao rfl rfl ?_
            first | (refine an rfl rfl (ag (av := slE _ _ _) rfl) ?_) | (refine an rfl rfl (ag (av := .v _) rfl) ?_) | (refine an rfl rfl (ag (av := .vw _ _ _ _) rfl) ?_)
            refine ao rfl rfl <| an rfl rfl (eS (m := 0) az (by kernel_rfl) rfl rfl ?h20 ?h21) ?_
            (case h20 => (omega))
            (case h21 => (omega))
            refine ao rfl rfl ?_
            first | refine an rfl rfl (aI al rfl rfl) ?_ | refine bM rfl rfl (ai (i := 0) al rfl rfl rfl rfl) ?_ | refine bM rfl rfl (ai (i := 1) al rfl rfl rfl rfl) ?_ | refine bM rfl rfl (ai (i := 2) al rfl rfl rfl rfl) ?_ | refine bM rfl rfl (ai (i := 3) al rfl rfl rfl rfl) ?_
            refine ao rfl rfl <| ee [] rfl en126 rfl (eC o8 _ (.inr rfl) [] l[0] t57 (by have := Str.total_drop l 0 (by omega); simp at this ⊢; omega)) ?p2 ?k2 ?q2
            (case p2 => (exact List.Perm.trans (List.Perm.swap _ _ _) ((List.Perm.swap _ _ _).cons _)))
            (case q2 => (rintro c A' ⟨h, _⟩; cases h))
            rintro av A' ⟨h, t61, rfl⟩; cases h
            refine ak <| aj <| aj <| ac ?_;show AR _ _ _ _ _ [0, 1, 2, 3] _;refine ao rfl rfl ?_
            first | (refine an rfl rfl (ag (av := slE _ _ _) rfl) ?_) | (refine an rfl rfl (ag (av := .v _) rfl) ?_) | (refine an rfl rfl (ag (av := .vw _ _ _ _) rfl) ?_)
            refine ao rfl rfl <| an rfl rfl (gS (lo := 1) az (by kernel_rfl) rfl rfl ?h23 ?h24) ?_
            (case h23 => (omega))
            (case h24 => (first | omega | (simp; done) | (simp; omega)))
            refine ao rfl rfl ?_
            first | (refine an rfl rfl (aU az rfl) ?_) | (refine an rfl rfl (cn az rfl) ?_)
            refine ao rfl rfl <| an rfl rfl (ag (av := .v _) rfl) <| ak <| bi <| dC (X := Nat × List UInt8 × Nat) (fun (i, out, t) => ⟨[(0, slE Enc.str l tl), (1, S sep), (8, .pt o8 0), (63, slE Enc.str (l.drop 1) none), (64, i64 ((l.drop 1).length : Nat)), (65, i64 i)], [], [.obj o8 [.pt o8 0, slE Enc.byte out (some t)], .ty o8 149, .tok t 5]⟩) (fun (i, out, t) => i ≤ l.length - 1 ∧ out ++ Str.rest sep (l.drop (i + 1)) = Str.join sep l) (fun (i, out, t) => l.length - i) (0, l[0], t61) ?_ ?_ ?_
            · exact ⟨by omega, (Str.join_at sep l (by omega)).symm⟩
            · refine WK.env (bh ?_ (bh ?_ (bh ?_ (bh ?_ (bh ?_ (bh ?_ (Env.le.nil _))))))) ?_
              all_goals first | exact bp _ | exact cq _ | ((repeat (first | exact bp _ | exact cq _ | refine dR _ ?_ | refine dQ _ ?_)); done) | exact Wv.refl _ | exact Wv.any _ | exact Wv.tok _ _ _ | exact Wv.nil _ | (refine Wv.of_eq ?_; first | rfl | exact gb (by omega) | (simp))
            · rintro ⟨i, out, t⟩ ⟨h1, h2⟩
              refine aj <| ac ?_;show AR _ _ _ _ _ [0] _;refine ao rfl rfl <| an rfl rfl (cf rfl rfl) <| ak <| aj <| aG rfl (fun c7 => ?_) (fun c7 => ?_)
              · have c7p := c7; try simp only [decide_eq_true_eq, decide_eq_false_iff_not, Bool.not_eq_true', Bool.not_eq_false', Bool.not_true, Bool.not_false, Bool.not_eq_eq_eq_not] at c7p
                have hd : (l.drop 1).length = l.length - 1 := by simp
                have hi : i < (l.drop 1).length := by omega
                have hroom := Str.room sep out l (i + 1) (by omega) h2 hb
                refine aM <| aj <| bi <| aj <| ac ?_;show AR _ _ _ _ _ [0, 1, 2] _;refine ao rfl rfl <| an rfl rfl (eS az (by kernel_rfl) rfl rfl rfl ?h25) ?_
                (case h25 => (omega))
                refine ao rfl rfl ?_
                first | refine an rfl rfl (aI al rfl rfl) ?_ | refine bM rfl rfl (ai (i := 0) al rfl rfl rfl rfl) ?_ | refine bM rfl rfl (ai (i := 1) al rfl rfl rfl rfl) ?_ | refine bM rfl rfl (ai (i := 2) al rfl rfl rfl rfl) ?_ | refine bM rfl rfl (ai (i := 3) al rfl rfl rfl rfl) ?_
                refine ao rfl rfl <| an rfl rfl (ay (av := .v _) rfl) <| ak <| aj <| ac ?_;show AR _ _ _ _ _ [0, 1] _;refine ao rfl rfl <| an rfl rfl (ag (av := .v _) rfl) <| ao rfl rfl <| ee [] rfl en126 rfl (eC o8 _ (.inr rfl) out sep t (by omega)) ?p3 ?k3 ?q3
                (case p3 => (exact bG _))
                (case q3 => (rintro c A' ⟨h, _⟩; cases h))
                rintro av A' ⟨h, t70, rfl⟩; cases h
                refine ak <| ac ?_;show AR _ _ _ _ _ [0, 1] _;refine ao rfl rfl <| an rfl rfl (ag (av := .v _) rfl) <| ao rfl rfl <| ee [] rfl en126 rfl (eC o8 _ (.inr rfl) (out ++ sep) (l.drop 1)[i] t70 (by simp [List.getElem_drop, Nat.add_comm 1 i] at *; omega)) ?p4 ?k4 ?q4
                (case p4 => (exact bG _))
                (case q4 => (rintro c A' ⟨h, _⟩; cases h))
                rintro av A' ⟨h, t72, rfl⟩; cases h
                refine ak <| ac ?_;show AR _ _ _ _ _ [0, 1] _;refine ao rfl rfl <| an rfl rfl (iO rfl rfl ?h27) ?_
                (case h27 => (omega))
                refine ao rfl rfl <| an rfl rfl (ag (av := .v _) rfl) <| ak ?_
                -- END 6 (loop2)
                refine ⟨(i + 1, out ++ sep ++ (l.drop 1)[i], t72), ?_, ?_, ?_⟩
                · refine ⟨by omega, ?_⟩
                  rw [← h2, Str.rest_drop sep l (i + 1) (by omega)]
                  simp [List.getElem_drop, Nat.add_comm]
                · (try simp only []); omega
                · refine WK.env (bh ?_ (bh ?_ (bh ?_ (bh ?_ (bh ?_ (bh ?_ (Env.le.nil _))))))) ?_
                  all_goals first | exact bp _ | exact cq _ | ((repeat (first | exact bp _ | exact cq _ | refine dR _ ?_ | refine dQ _ ?_)); done) | exact Wv.refl _ | exact Wv.any _ | exact Wv.tok _ _ _ | exact Wv.nil _ | (refine Wv.of_eq ?_; first | rfl | exact gb (by omega) | (simp))
              · have c7p := c7; try simp only [decide_eq_true_eq, decide_eq_false_iff_not, Bool.not_eq_true', Bool.not_eq_false', Bool.not_true, Bool.not_false, Bool.not_eq_eq_eq_not] at c7p
                have hd : (l.drop 1).length = l.length - 1 := by simp
                have hroom := Str.out_room sep out _ l h2 hb
                refine dk <| aj <| ac ?_;show AR _ _ _ _ _ [0, 1] _;refine ao rfl rfl <| ee [.ty o8 149] rfl en127 rfl (lH o8 (.pt o8 0) out t (by omega)) ?p5 ?k5 ?q5
                (case p5 => (exact (List.Perm.swap _ _ _).cons _))
                (case q5 => (rintro c A' ⟨h, _⟩; cases h))
                rintro av A' ⟨h, rfl⟩; cases h
                refine ao rfl rfl <| an rfl rfl (ay (av := .v _) rfl) <| ak <| aR ?_
                -- END 7 (ret)
                show ci _ _ _ _ .ret _
                rw [Str.rest_end sep l (i + 1) (by omega), List.append_nil] at h2
                rw [← h2]
                (refine ⟨rfl, _, _, aV rfl ?_, ?_, ⟨rfl, rfl⟩⟩; all_goals first | exact bp _ | exact cq _ | ((repeat (first | exact bp _ | exact cq _ | refine dR _ ?_ | refine dQ _ ?_)); done) | exact Wv.refl _ | exact Wv.tok _ _ _ | exact Wv.nil _)
end Go.Proofs.YtgjkjkmmgdbcoaaGreatDoor
namespace Go.Av
open Go.RowKit
def Info.start (w : World) : Info := ⟨fun b => if b < w.heap.size then none else some 0, fun _ => none, fun _ => none⟩
theorem Inv.start (w : World) (hg : ∀ g cs, G g = some cs → Rel (Info.start w) w (gv cs) (.pointer (some ⟨g, 0, none⟩))) : Inv (Info.start w) [] w where
  holds := fun c h => by cases h
  nodup := by simp
  fresh := fun b h => by simp only [Info.start]; rw [if_neg (by omega)]
  ids := ⟨0, fun _ _ => ⟨rfl, rfl⟩⟩
  glob := hg
theorem mg {w : World} {b n : Nat} (h : b < w.heap.size) : Stab (Info.start w) b n := fun m hm => by
  simp only [Info.start] at hm
  rw [if_pos h] at hm; cases hm
theorem law_of {P : Program} {f : FuncId} {args : List AV} {vs : List Value} {w : World} (h : ACalls P f args [] (Ret (B true) [])) (hr : RelL (Info.start w) w args vs)
    (hg : ∀ g cs, G g = some cs → Rel (Info.start w) w (gv cs) (.pointer (some ⟨g, 0, none⟩))) :
    Calls P f vs.toArray w fun e w' => e = .returned (.bool true) ∧ Below w.heap.size w w' :=
  (h [] (Info.start w) w vs (Inv.start w hg) hr).mono fun e w' ⟨I', ae, A', E, _, he, h1, _⟩ => by
    subst h1;refine ⟨?_, E.os, E.tape, E.out, E.size, fun k hk => (E.blk k (by simp only [Info.start]; rw [if_pos hk])).1⟩
    cases e with
    | returned v => cases he; rfl
    | panicked c => exact he.elim
    | outgrown => exact he.elim
theorem qB {w : World} {a : Addr} {v : Value} (h : w.cell? a = some v) : a.block < w.heap.size ∧ a.spot = none := by
  unfold World.cell? at h
  split at h
  · rename_i c _ _ hb
    have hlt := (Array.getElem?_eq_some_iff.1 hb).1
    split at h
    · cases h
    · rename_i hs
      cases hsp : a.spot with
      | none => exact ⟨hlt, rfl⟩
      | some k => rw [hsp] at hs; exact absurd rfl hs
  · cases h
theorem qs {α : Type} {w : World} (E : Enc α) (g : α → Value) (hE : ∀ x, E.f x = [.v (g x)]) (l : List α) (x : Addr) (cap : Nat) (hcap : l.length ≤ cap)
    (hc : ∀ i (h : i < l.length), w.cell? (x.add i) = some (g l[i])) : Rel (Info.start w) w (slE E l none) (.slice (some x) l.length cap) := by
  by_cases hl : l = []
  · subst hl; exact .slz _ _ _
  · have h0 : 0 < l.length := List.length_pos_iff.2 hl
    have hk : E.k = 1 := by rw [← E.len l[0], hE]; rfl
    have hf : E.fl l = l.map fun x => .v (g x) := by
      clear hl h0 hcap hc
      induction l with
      | nil => rfl
      | cons y l ih => rw [E.fl_cons, hE, ih]; rfl
    have hx0 := hc 0 h0
    obtain ⟨hb, hs⟩ := qB hx0
    have hx : x = ⟨x.block, x.off, none⟩ := by
      have : x.add 0 = x := rfl
      rw [this] at hs
      cases x; simp at hs; subst hs; rfl
    have hb' : x.block < w.heap.size := hb
    rw [hx]
    have hadd : ∀ i, i < l.length → w.cell? ⟨x.block, x.off + i, none⟩ = w.cell? (x.add i) := fun i hi => by
      unfold Addr.add
      by_cases h : i = 0
      · rw [if_pos h]; subst h; rw [Nat.add_zero, ← hx]
      · rw [if_neg h]
    unfold slE
    refine .sl E.k (E.fl l) none x.block x.off l.length cap (fun j => if h : j < l.length then g l[j] else undef) (by omega) (by rw [E.fl_length]) hcap (mg hb') ?_ ?_ (fun _ h => by cases h)
    · intro j hj
      rw [E.fl_length, hk, Nat.mul_one] at hj
      simp only [hj, dif_pos]
      rw [hadd j hj, hc j hj]
    · intro j hj
      have hj' : j < l.length := by rw [E.fl_length, hk, Nat.mul_one] at hj; exact hj
      simp only [hj', dif_pos, hf, List.getElem_map]
      exact .v _
theorem qS {w : World} {a : Option Addr} {len cap : Nat} {zs : List Int}
    (h : (a = none ∧ len = 0 ∧ cap = 0 ∧ zs = []) ∨ ∃ x, a = some x ∧ len ≤ cap ∧ cap ≤ maxLen ∧ zs.length = cap ∧ (∀ i, i < zs.length → w.cell? (x.add i) = some (.int .u8 (zs.getD i 0))) ∧ ∀ n ∈ zs, (Lit.int .u8 n).wf = true) :
    ∃ l : List UInt8, l.length = len ∧ len ≤ maxLen ∧ Rel (Info.start w) w (slE Enc.byte l none) (.slice a len cap) := by
  rcases h with ⟨rfl, rfl, rfl, rfl⟩ | ⟨x, rfl, hl, hm, hz, hc, hw⟩
  · exact ⟨[], rfl, Nat.zero_le _, .slz _ _ _⟩
  · refine ⟨(zs.take len).map fun n => UInt8.ofNat n.toNat, by simp; omega, by omega, ?_⟩
    have hll : ((zs.take len).map fun n => UInt8.ofNat n.toNat).length = len := by simp; omega
    have := qs (w := w) Enc.byte (fun c => .int .u8 c.toNat) (fun _ => rfl) ((zs.take len).map fun n => UInt8.ofNat n.toNat) x cap (by omega) (fun i hi => by
      rw [hll] at hi
      rw [hc i (by omega)]
      have hiz : i < zs.length := by omega
      have hn := hw zs[i] (List.getElem_mem hiz)
      have hn2 : 0 ≤ zs[i] ∧ zs[i] ≤ 255 := by simpa [Lit.wf, IntKind.min, IntKind.max, IntKind.signed, IntKind.bits] using hn
      simp only [List.getElem_map, List.getElem_take]
      have e : ((UInt8.ofNat zs[i].toNat).toNat : Int) = zs[i] := by simp; omega
      rw [e]
      simp [List.getD, hiz])
    rw [hll] at this
    exact this
theorem mj (I : Info) (w : World) (s : ByteArray) : Rel I w (S s.data.toList) (.string s) := by
  have : (⟨s.data.toList.toArray⟩ : ByteArray) = s := by cases s; simp
  show Rel I w (.v (.string ⟨s.data.toList.toArray⟩)) _
  rw [this]; exact .v _
end Go.Av
namespace Go.Proofs.YtgjkjkmmgdbcoaaGreatDoor
open Go.RowKit Go.Av
theorem str_fl (l : List (List UInt8)) : Enc.str.fl l = l.map fun s => S s := by
  induction l with
  | nil => rfl
  | cons c s ih => rw [Enc.fl_cons, ih]; rfl
theorem qX (s sep : List UInt8) (hs : s.length < 4294967281) (h1 : 1 ≤ sep.length) : ACalls Tryz.prog 109 [S s, S sep] [] (Ret (slE Enc.str (Go.Lib.split s sep) none) []) := fun F I w vs hI hv => by
  obtain ⟨v1, r1, rfl, e1, hv⟩ := hv.out_cons;obtain ⟨v2, r2, rfl, e2, hv⟩ := hv.out_cons
  rw [hv.out_nil, jK e1, jK e2]
  obtain ⟨m, hm⟩ := lc hI (g := 0) (k := .i64) (r := []) rfl
  have hsep : 1 ≤ (⟨sep.toArray⟩ : ByteArray).size := by simpa [ByteArray.size] using h1
  refine (Tryz.strings_Split ⟨s.toArray⟩ ⟨sep.toArray⟩ m w (by simpa [ByteArray.size] using hs) hm hsep).mono fun e w' ⟨he, hw⟩ => ?_
  subst he; subst hw
  have hlen := Go.Lib.splitB_all ⟨sep.toArray⟩ hsep 0 _ ⟨s.toArray⟩ rfl
  have hdat := Go.Lib.splitB_data ⟨sep.toArray⟩ 0 (Go.Lib.countB ⟨s.toArray⟩ ⟨sep.toArray⟩) ⟨s.toArray⟩
  generalize hL : Go.Lib.splitB ⟨sep.toArray⟩ 0 (Go.Lib.countB ⟨s.toArray⟩ ⟨sep.toArray⟩) ⟨s.toArray⟩ = L at hlen hdat
  have hsp : Go.Lib.split s sep = L.map (·.data.toList) := by rw [hdat]; rfl
  have hll : (Go.Lib.split s sep).length = L.length := by rw [hsp]; simp
  refine ⟨_, .ret (slE Enc.str (Go.Lib.split s sep) none), [], hI.new_still _, hI.alloc_still _, ?_, rfl, rfl⟩
  rw [← hlen, ← hll]
  have hfl : (Enc.str.fl (Go.Lib.split s sep)).length = L.length := by rw [str_fl]; simp [hll]
  refine .sl 1 _ none w.heap.size 0 _ _ (fun j => (L.map Value.string).getD j undef) (by decide) (by rw [hfl, hll, Nat.mul_one]) (Nat.le_refl _) (fun m hm => by simp [Info.still] at hm) (fun j hj => ?_) (fun j hj => ?_) (fun _ h => by cases h)
  · rw [hfl] at hj
    rw [Nat.zero_add]
    simp only [World.cell?, bW]
    simp [List.getD, hj]
  · have hj' : j < L.length := by rw [hfl] at hj; exact hj
    have : (Enc.str.fl (Go.Lib.split s sep))[j] = S (L[j].data.toList) := by
      simp only [str_fl, List.getElem_map, hsp]
    rw [this]
    have h2 : (L.map Value.string).getD j undef = .string L[j] := by simp [List.getD, hj']
    rw [h2]
    exact mj _ _ _
end Go.Proofs.YtgjkjkmmgdbcoaaGreatDoor
namespace Go.Av
open Go.RowKit
def ResT (P : Program) (fn : Func) (N : Nat) (e : Env) (A : List Chunk) (av : AV) : Prop :=
  ∀ F I w tmps, Inv I (A ++ F) w → tmps.size = N → (∀ t, Rel I w (ev e t) (tmps.getD t undef)) → ∃ v, (results fn tmps).run P w = .ok v w ∧ Rel I w av v
def ADCalls (P : Program) (f : FuncId) (args : List AV) (A : List Chunk) (u : FrameMode) (R : AE → FrameMode → List Chunk → Prop) : Prop :=
  ∀ F I w vs, Inv I (A ++ F) w → RelL I w args vs → CallsD P f vs.toArray u w fun e u' w' => ∃ I' ae A', Ext I w I' w' ∧ Inv I' (A' ++ F) w' ∧ kY I' w' ae e ∧ R ae u' A'
def ALeaves (P : Program) (fn : Func) (N : Nat) (e : Env) (R : AE → List Chunk → Prop) : List ADef → FrameMode → List Chunk → Prop
  | [], .returning, A => ∃ av A', ResT P fn N e A av ∧ Sub A' A ∧ R (.ret av) A'
  | [], .panicking c, A => ∃ A', Sub A' A ∧ R (.pan c) A'
  | [], .run, _ => False
  | .call f cap args :: ds, u, A => u ≠ .run ∧ ∃ g A1 B, f = .func g ∧ (∀ as_ w, (callFunc g as_).run P w = .ok (.enter g as_) w) ∧ A.Perm (A1 ++ B) ∧
      ADCalls P g (args ++ cap) A1 u fun ae u' A' => match ae with
        | .ret _ => ALeaves P fn N e R ds (settle u') (A' ++ B)
        | .pan c => ALeaves P fn N e R ds (raised u' c) (A' ++ B)
  | .mark _ :: _, _, _ => False
section
variable {P : Program} {fn : Func} {N : Nat} {e : Env} {R : AE → List Chunk → Prop} {F : List Chunk} {I0 : Info} {w0 : World}
theorem ALeaves.sound : ∀ (ads : List ADef) (u : FrameMode) (A : List Chunk) (ds : List Deferred) (I : Info) (w : World) (tmps : Array Value),
    Ext I0 w0 I w → Inv I (A ++ F) w → tmps.size = N → (∀ t, Rel I w (ev e t) (tmps.getD t undef)) → RelDs I w ads ds → ALeaves P fn N e R ads u A →
    Leaves P fn tmps (fun en w' => ∃ I' ae A', Ext I0 w0 I' w' ∧ Inv I' (A' ++ F) w' ∧ kY I' w' ae en ∧ R ae A') ds u w := by
  intro ads
  induction ads with
  | nil =>
    intro u A ds I w tmps E hI hs ht hd h
    cases hd
    cases u with
    | run => exact h.elim
    | returning =>
      obtain ⟨av, A', hr, hsub, hR⟩ := h;obtain ⟨v, hrun, hv⟩ := hr F I w tmps hI hs ht;exact ⟨v, hrun, I, .ret av, A', E, hsub.inv hI, hv, hR⟩
    | panicking c =>
      obtain ⟨A', hsub, hR⟩ := h;exact ⟨I, .pan c, A', E, hsub.inv hI, rfl, hR⟩
  | cons ad ads ih =>
    intro u A ds I w tmps E hI hs ht hd h
    cases hd with
    | cons hd hds =>
      rename_i d ds
      cases ad with
      | mark o => exact h.elim
      | call f cap args =>
        obtain ⟨hu, g, A1, B, rfl, hf, hp, hc⟩ := h
        cases hd with
        | call f cap args xs ys hx hy =>
          have hI2 : Inv I (A1 ++ (B ++ F)) w := by rw [← List.append_assoc]; exact hI.perm (hp.append_right F)
          refine ⟨hu, .func g, xs.toArray, g, (ys ++ xs).toArray, rfl, ?_, ?_⟩
          · simp only [invoke]
            rw [show ys.toArray ++ xs.toArray = (ys ++ xs).toArray by simp]
            exact hf _ _
          · intro c cs hcm
            obtain ⟨en, u', w', fr, hq, h1, h2, h3⟩ := hc (B ++ F) I w _ hI2 (hy.append hx) c cs hcm;refine ⟨en, u', w', fr, ?_, h1, h2, h3⟩;obtain ⟨I', ae, A', E', hI', hre, hR⟩ := hq
            have hI3 : Inv I' ((A' ++ B) ++ F) w' := by rw [List.append_assoc]; exact hI'
            cases en with
            | returned v =>
              cases ae with
              | ret av => exact ih _ _ _ I' w' tmps (E.trans E') hI3 hs (fun t => (ht t).mono E') (hds.mono E') hR
              | pan c => exact hre.elim
            | panicked c =>
              cases ae with
              | ret av => exact hre.elim
              | pan c' => cases hre; exact ih _ _ _ I' w' tmps (E.trans E') hI3 hs (fun t => (ht t).mono E') (hds.mono E') hR
            | outgrown => cases ae <;> exact hre.elim
def RetPostD (P : Program) (fn : Func) (N : Nat) (K : List Nat) (R : AE → List Chunk → Prop) : dF
  | .normal, s | .ret, s => ALeaves P fn N s.env R s.ds .returning s.A
  | .panic c, s => ∃ e0 : Env, (∀ p ∈ e0, p.1 ∈ K) ∧ Env.le s.env e0 ∧ ALeaves P fn N e0 R s.ds (.panicking c) s.A
  | _, _ => False
theorem RetPostD.free {K : List Nat} {d : Nat} (hd : K.contains d = false) {c : List PanicEntry} {s : St} (h : RetPostD P fn N K R (.panic c) s) : RetPostD P fn N K R (.panic c) ⟨(d, .any) :: s.env, s.ds, s.A⟩ := by
  obtain ⟨e0, h1, h2, h3⟩ := h;refine ⟨e0, h1, fun p hp => ?_, h3⟩
  have hne : d ≠ p.1 := fun e => by
    have := h1 p hp
    rw [← e] at this
    simp at hd
    exact hd this
  have hb : Nat.beq d p.1 = false := by
    cases hb : Nat.beq d p.1 with
    | false => rfl
    | true => exact absurd (Nat.eq_of_beq_eq_true hb) hne
  simp only [ev, hb]
  exact h2 p hp
abbrev _root_.Go.Av.ce := @RetPostD.free
end
theorem jw {args : List AV} {vs : List Value} {fn : Func} {I : Info} {w : World} {A : List Chunk} (hv : RelL I w args vs) (hl' : args.length ≤ fn.ntmps) :
    RelS fn.ntmps I w ⟨gB 0 args, [], A⟩ { tmps := vs.toArray ++ Array.replicate (fn.ntmps - vs.toArray.size) undef, defers := [] } := by
  refine ⟨?_, fun t => ?_, .nil⟩
  · simp [hv.1]; omega
  · show Rel I w (ev (gB 0 args) t) _
    rw [nt]
    simp only [Nat.zero_le, if_true, Nat.sub_zero]
    by_cases ht : t < args.length
    · have := hv.2 t ht
      have hx : t < vs.length := by rw [hv.1]; exact ht
      rw [show args.getD t .any = args[t] by simp [List.getD, ht]]
      have e1 : (vs.toArray ++ Array.replicate (fn.ntmps - vs.toArray.size) undef).getD t undef = vs.getD t undef := by
        rw [Array.getD_eq_getD_getElem?, Array.getElem?_append_left (by simpa using hx)]
        simp [List.getD]
      rw [e1]; exact this
    · rw [show args.getD t .any = .any by simp [List.getD, List.getElem?_eq_none (Nat.le_of_not_lt ht)]]
      exact .any _
theorem lK {P : Program} {f : FuncId} {fn : Func} {c : Code} {args : List AV} {A : List Chunk} {R : AE → List Chunk → Prop} (K : List Nat) (hf : P.funcs[f]? = some fn) (hb : fn.body = some c) (hl : Nat.ble args.length fn.ntmps = true)
    (h : AW P none fn.ntmps c (RetPostD P fn fn.ntmps K R) ⟨gB 0 args, [], A⟩) : ACalls P f args A R := fun F I w vs hI hv => by
  refine calls_of_wp_defers hf hb ((wpIn_wide (n := 0)).1 (wpIn_mono (h F I w _ hI (jw hv (ab hl))) fun e a w' hq => ?_));obtain ⟨I', s', E, hI', hS', hq⟩ := hq
  cases e with
  | normal => exact ALeaves.sound s'.ds .returning s'.A a.defers I' w' a.tmps E hI' hS'.size hS'.env hS'.ds hq
  | ret => exact ALeaves.sound s'.ds .returning s'.A a.defers I' w' a.tmps E hI' hS'.size hS'.env hS'.ds hq
  | panic c =>
    obtain ⟨e0, _, hle, hq⟩ := hq;exact ALeaves.sound s'.ds (.panicking c) s'.A a.defers I' w' a.tmps E hI' hS'.size (fun t => (hle.ev t).rel (hS'.env t)) hS'.ds hq
  | exit id => exact hq.elim
  | goto l => exact hq.elim
  | outgrown => exact hq.elim
theorem ResT.oneW {P : Program} {fn : Func} {N t : Nat} {e : Env} {A : List Chunk} {av : AV} (hr : fn.results = #[.tmp t]) (h : Wv (ev e t) av) : ResT P fn N e A av := fun F I w tmps hI hs ht =>
  ⟨tmps.getD t undef, by simp [results, hr], h.rel (ht t)⟩
theorem pL {P : Program} {o : Oper} {a : Act} {K K' : Act → World → Prop} {Q Q' : Exit → Act → World → Prop} {r : Result Next} (h : ∀ a w, K a w → K' a w) (hq : ∀ e a w, Q e a w → Q' e a w) (hh : o.upon P a K Q r) : o.upon P a K' Q' r := by
  cases r with
  | ok n w' =>
    cases n <;> simp only [Oper.upon] at hh ⊢ <;> first
      | exact h _ _ hh
      | exact hh.mono fun e w'' he => by cases e <;> first | exact h _ _ he | exact hq _ _ _ he | exact he.imp fun _ ⟨w, hx⟩ => ⟨w, hq _ _ _ hx⟩
      | exact hh.mono fun v w'' he => h _ _ he
      | exact hh
  | halt x w' => cases x <;> simp only [Oper.upon] at hh ⊢ <;> first | exact hq _ _ _ hh | exact hh
theorem lj {P : Program} {ops : Array Oper} {R R' : Exit → Act → List Frame → World → Prop} (l : List Nat) (h : ∀ e a cs w, R e a cs w → R' e a cs w) :
    ∀ a cs w, wpOpsS P ops R l a cs w → wpOpsS P ops R' l a cs w := by
  induction l with
  | nil => exact fun a cs w hh => h _ _ _ _ hh
  | cons i rest ih =>
    intro a cs w hh
    simp only [wpOpsS] at hh ⊢
    cases ho : ops[i]? with
    | none => simp only [ho] at hh ⊢; exact ih a cs w hh
    | some o =>
      simp only [ho] at hh ⊢
      by_cases hw : Region.wanted o (yielded ops a.tmps) = true
      · simp only [hw, if_true] at hh ⊢
        generalize (execOp a.eval o).run P w = r at hh ⊢
        split at hh
        · split at hh
          · exact ih _ _ _ hh
          · exact ih _ _ _ hh
        · rename_i r' hnr
          exact pL (fun a w => ih a cs w) (fun e a w => h e a cs w) hh
      · simp only [hw, if_false, Bool.false_eq_true] at hh ⊢
        exact ih _ _ _ hh
def ASR (P : Program) (N : Nat) (ops : Array Oper) (cs : List Frame) (Q : dF) (l : List Nat) (s : St) : Prop :=
  ∀ F I w a, Inv I (s.A ++ F) w → RelS N I w s a → wpOpsS P ops (fun e a' cs' w' => cs' = cs ∧ CQ N F I w Q e a' w') l a cs w
theorem ASR.nil {P : Program} {N : Nat} {ops : Array Oper} {cs : List Frame} {Q : dF} {s : St} (h : Q .normal s) : ASR P N ops cs Q [] s := fun F I w a hI hS =>
  ⟨rfl, I, s, bI _ _, hI, hS, h⟩
theorem ASR.op {P : Program} {N : Nat} {ops : Array Oper} {cs : List Frame} {Q : dF} {i : Nat} {rest : List Nat} {d : Nat} {op : Op} {T : TypeId} {pos : String} {after : Array Edge} {e : Env} {ds : List ADef} {A A' : List Chunk} {av : AV}
    (ho : ops[i]? = some ⟨some d, op, T, pos, after, none⟩) (hd : Nat.blt d N = true) (h : OpR P ⟨some d, op, T, pos, after, none⟩ e A av A') (k : ASR P N ops cs Q rest ⟨(d, av) :: e, ds, A'⟩) :
    ASR P N ops cs Q (i :: rest) ⟨e, ds, A⟩ := fun F I w a hI hS => by
  obtain ⟨n, v, w', I', hrun, hnv, E, hI', hv⟩ := h F I w a.eval hI hS.op
  have hk := k F I' w' (a.put (some d) v) hI' ((hS.mono E).put (ab hd) hv A')
  have hk' := lj (R' := fun e a' cs' w' => cs' = cs ∧ CQ N F I w Q e a' w') rest (fun e a' cs' w' ⟨h1, h2⟩ => ⟨h1, da E (fun _ _ h => h) h2⟩) _ _ _ hk
  simp only [wpOpsS, ho, Region.wanted, if_true, hrun]
  rcases hnv with rfl | ⟨rfl, rfl⟩ <;> exact hk'
end Go.Av
namespace Go.Av
open Go.RowKit
section
variable {P : Program} {ro : Option Nat} {N : Nat} {Q : dF} {ops : Array Oper}
theorem ox {I : Info} {w : World} {f : Fn} {as_ bs : List AV} {v : Value} (h : Rel I w (.fn f as_ bs) v) : ∃ xs ys : List Value, v = .func f xs.toArray ys.toArray ∧ RelL I w as_ xs ∧ RelL I w bs ys := by
  cases h with
  | fn _ _ _ xs ys hl hr hl' hr' => exact ⟨xs, ys, rfl, ⟨hl, hr⟩, ⟨hl', hr'⟩⟩
def FnV (a : AV) (f : Fn) (as_ bs : List AV) : Prop := a = .fn f as_ bs ∨ (a = .v (.func f #[] #[]) ∧ as_ = [] ∧ bs = [])
theorem qt {I : Info} {w : World} {a : AV} {f : Fn} {as_ bs : List AV} {v : Value} (h : FnV a f as_ bs) (hr : Rel I w a v) : ∃ xs ys : List Value, v = .func f xs.toArray ys.toArray ∧ RelL I w as_ xs ∧ RelL I w bs ys := by
  rcases h with rfl | ⟨rfl, rfl, rfl⟩
  · exact ox hr
  · exact ⟨[], [], bS hr, dZ, dZ⟩
theorem gj {P : Program} {ρ : Operand → Value} {f : Fn} {xs ys : Array Value} {x : Operand} {args : Array Operand} {argTypes : Array TypeId} {T : TypeId} {w : World} (h : ρ x = .func f xs ys) :
    (resolve ρ ⟨.value x, args, argTypes⟩ T).run P w = .ok { target := .fn f ys, args := xs ++ args.map ρ } w := by
  simp only [resolve, h, Deferred.ofValue, Sem.run_pure]
theorem AO.callF {rest : List Nat} {d : Nat} {x : Operand} {f : FuncId} {fs cs : List AV} {args : Array Operand} {argTypes : Array TypeId} {T : TypeId} {pos : String} {after : Array Edge} {g : Option (Nat × Bool)} {e : Env} {ds : List ADef} {A A1 : List Chunk} (B : List Chunk)
    {R : AE → List Chunk → Prop} {avs : List AV} (hd : Nat.blt d N = true) (hx : FnV (opv e x) (.func f) fs cs) (hf : ∀ args w, (callFunc f args).run P w = .ok (.enter f args) w) (ha : fs ++ args.toList.map (opv e) ++ cs = avs)
    (h : ACalls P f avs A1 R) (p : A.Perm (A1 ++ B)) (k : ∀ av A', R (.ret av) A' → AR P ro N ops Q rest ⟨(d, av) :: e, ds, A' ++ B⟩)
    (kp : ∀ c A', R (.pan c) A' → Q (.panic c) ⟨e, ds, A' ++ B⟩) :
    AO P ro N ops Q rest ⟨some d, .call ⟨.value x, args, argTypes⟩, T, pos, after, g⟩ ⟨e, ds, A⟩ := fun F I w a hI hS => by
  have hS' := hS
  obtain ⟨xs, ys, hv, hxs, hys⟩ := qt hx (hS'.op x)
  have hrl : RelL I w avs (xs ++ args.toList.map a.eval ++ ys) := by
    rw [← ha]; exact (hxs.append (dS _ _ _ fun x _ => hS'.op x)).append hys
  refine ⟨fun _ _ => cQ _, ?_⟩
  have he : (xs.toArray ++ args.map a.eval) ++ ys.toArray = (xs ++ args.toList.map a.eval ++ ys).toArray := by apply Array.ext'; simp
  have hex : (Oper.semAt (cN ro).round a.eval ⟨some d, .call ⟨.value x, args, argTypes⟩, T, pos, after, g⟩).run P w = .ok (.enter f (xs ++ args.toList.map a.eval ++ ys).toArray) w := by
    rw [Oper.semAt_eq _ _ _ (fun c h => by cases h)]
    simp only [execOp, Sem.run_bind, gj hv, Result.andThen_ok, invoke, he]
    exact hf _ _
  rw [hex]
  refine ⟨iQ, AO.call.callsIn_wide'.2 ?_⟩
  have hI2 : Inv I (A1 ++ (B ++ F)) w := by rw [← List.append_assoc]; exact hI.perm (p.append_right F)
  refine (h (B ++ F) I w _ hI2 hrl).mono fun en w' ⟨I', ae, A', E, hI', hre, hR⟩ => ?_
  have hI3 : Inv I' ((A' ++ B) ++ F) w' := by rw [List.append_assoc]; exact hI'
  cases en with
  | returned v =>
    cases ae with
    | ret av =>
      have hk := k av A' hR F I' w' (a.put (some d) v) hI3 ((hS.mono E).put (ab hd) hre _)
      exact cH rest (fun _ _ _ => da E fun _ _ h => h) _ _ hk
    | pan c => exact hre.elim
  | panicked c =>
    cases ae with
    | ret av => exact hre.elim
    | pan c' =>
      cases hre
      exact ⟨I', ⟨e, ds, A' ++ B⟩, E, hI3, ⟨hS.size, (hS.mono E).env, (hS.mono E).ds⟩, kp _ A' hR⟩
  | outgrown => cases ae <;> exact hre.elim
theorem AIO.callF {fuel : Nat} {listed : Array Bool} {d : Nat} {x : Operand} {f : FuncId} {fs cs : List AV} {args : Array Operand} {argTypes : Array TypeId} {T : TypeId} {pos : String} {after : Array Edge} {g : Option (Nat × Bool)} {e : Env} {ds : List ADef} {A A1 : List Chunk} (B : List Chunk)
    {R : AE → List Chunk → Prop} {avs : List AV} (hd : Nat.blt d N = true) (hx : FnV (opv e x) (.func f) fs cs) (hf : ∀ args w, (callFunc f args).run P w = .ok (.enter f args) w) (ha : fs ++ args.toList.map (opv e) ++ cs = avs)
    (h : ACalls P f avs A1 R) (p : A.Perm (A1 ++ B)) (k : ∀ av A', R (.ret av) A' → AI P ro N ops Q fuel listed ⟨(d, av) :: e, ds, A' ++ B⟩)
    (kp : ∀ c A', R (.pan c) A' → Q (.panic c) ⟨e, ds, A' ++ B⟩) :
    AIO P ro N ops Q fuel listed ⟨some d, .call ⟨.value x, args, argTypes⟩, T, pos, after, g⟩ ⟨e, ds, A⟩ := fun hp hop F I0 w0 I w a E0 hI hS => by
  have hS' := hS
  obtain ⟨xs, ys, hv, hxs, hys⟩ := qt hx (hS'.op x)
  have hrl : RelL I w avs (xs ++ args.toList.map a.eval ++ ys) := by
    rw [← ha]; exact (hxs.append (dS _ _ _ fun x _ => hS'.op x)).append hys
  have he : (xs.toArray ++ args.map a.eval) ++ ys.toArray = (xs ++ args.toList.map a.eval ++ ys).toArray := by apply Array.ext'; simp
  have hex : (execOp a.eval ⟨some d, .call ⟨.value x, args, argTypes⟩, T, pos, after, g⟩).run P w = .ok (.enter f (xs ++ args.toList.map a.eval ++ ys).toArray) w := by
    simp only [execOp, Sem.run_bind, gj hv, Result.andThen_ok, invoke, he]
    exact hf _ _
  refine ⟨fun _ _ => cQ _, ?_⟩
  rw [show (cN ro).round = ro from rfl, hop, hex]
  refine ⟨iQ, AO.call.callsIn_wide'.2 ?_⟩
  have hI2 : Inv I (A1 ++ (B ++ F)) w := by rw [← List.append_assoc]; exact hI.perm (p.append_right F)
  refine (h (B ++ F) I w _ hI2 hrl).mono fun en w' ⟨I', ae, A', E, hI', hre, hR⟩ => ?_
  have hI3 : Inv I' ((A' ++ B) ++ F) w' := by rw [List.append_assoc]; exact hI'
  cases en with
  | returned v =>
    cases ae with
    | ret av => exact ⟨I', E, k av A' hR hp F I0 w0 I' w' (a.put (some d) v) (E0.trans E) hI3 ((hS.mono E).put (ab hd) hre _)⟩
    | pan c => exact hre.elim
  | panicked c =>
    cases ae with
    | ret av => exact hre.elim
    | pan c' =>
      cases hre
      exact ⟨I', ⟨e, ds, A' ++ B⟩, E0.trans E, hI3, ⟨hS.size, (hS.mono E).env, (hS.mono E).ds⟩, kp _ A' hR⟩
  | outgrown => cases ae <;> exact hre.elim
theorem AO.callFAt {rest : List Nat} {d : Nat} {x : Operand} {f : FuncId} {fs cs : List AV} {args : Array Operand} {argTypes : Array TypeId} {T : TypeId} {pos : String} {after : Array Edge} {g : Option (Nat × Bool)} {e : Env} {ds : List ADef} {A A1 B : List Chunk}
    {R : AE → List Chunk → Prop} {avs : List AV} (is : List Nat) (hd : Nat.blt d N = true) (hx : FnV (opv e x) (.func f) fs cs) (hf : ∀ args w, (callFunc f args).run P w = .ok (.enter f args) w) (ha : fs ++ args.toList.map (opv e) ++ cs = avs)
    (h : ACalls P f avs A1 R) (p : fP A is = some (A1, B)) (hr : ∀ c A', ¬ R (.pan c) A') (k : ∀ av A', R (.ret av) A' → AR P ro N ops Q rest ⟨(d, av) :: e, ds, A' ++ B⟩) :
    AO P ro N ops Q rest ⟨some d, .call ⟨.value x, args, argTypes⟩, T, pos, after, g⟩ ⟨e, ds, A⟩ :=
  AO.callF B hd hx hf ha h (cw is _ _ _ p) k (fun c A' h => (hr c A' h).elim)
theorem AIO.callFAt {fuel : Nat} {listed : Array Bool} {d : Nat} {x : Operand} {f : FuncId} {fs cs : List AV} {args : Array Operand} {argTypes : Array TypeId} {T : TypeId} {pos : String} {after : Array Edge} {g : Option (Nat × Bool)} {e : Env} {ds : List ADef} {A A1 B : List Chunk}
    {R : AE → List Chunk → Prop} {avs : List AV} (is : List Nat) (hd : Nat.blt d N = true) (hx : FnV (opv e x) (.func f) fs cs) (hf : ∀ args w, (callFunc f args).run P w = .ok (.enter f args) w) (ha : fs ++ args.toList.map (opv e) ++ cs = avs)
    (h : ACalls P f avs A1 R) (p : fP A is = some (A1, B)) (hr : ∀ c A', ¬ R (.pan c) A') (k : ∀ av A', R (.ret av) A' → AI P ro N ops Q fuel listed ⟨(d, av) :: e, ds, A' ++ B⟩) :
    AIO P ro N ops Q fuel listed ⟨some d, .call ⟨.value x, args, argTypes⟩, T, pos, after, g⟩ ⟨e, ds, A⟩ :=
  AIO.callF B hd hx hf ha h (cw is _ _ _ p) k (fun c A' h => (hr c A' h).elim)
abbrev _root_.Go.Av.cy := @AIO.callFAt
theorem AO.defer {rest : List Nat} {x : Operand} {f : Fn} {fs cs : List AV} {args : Array Operand} {argTypes : Array TypeId} {T : TypeId} {pos : String} {after : Array Edge} {g : Option (Nat × Bool)} {e : Env} {ds : List ADef} {A : List Chunk}
    (hx : opv e x = .fn f fs cs) (k : AR P none N ops Q rest ⟨e, .call f cs (fs ++ args.toList.map (opv e)) :: ds, A⟩) :
    AO P none N ops Q rest ⟨none, .defer ⟨.value x, args, argTypes⟩, T, pos, after, g⟩ ⟨e, ds, A⟩ := fun F I w a hI hS => by
  have hS' := hS
  obtain ⟨xs, ys, hv, hxs, hys⟩ := ox (hx ▸ hS'.op x);refine ⟨fun _ _ => cQ _, ?_⟩
  have hex : (Oper.semAt (cN none).round a.eval ⟨none, .defer ⟨.value x, args, argTypes⟩, T, pos, after, g⟩).run P w = .ok (.defer { target := .fn f ys.toArray, args := (xs ++ args.toList.map a.eval).toArray }) w := by
    rw [show (cN none).round = none from rfl, Oper.semAt_none]
    simp only [execOp, Sem.run_bind, gj hv, Result.andThen_ok, Sem.run_pure]
    congr 2
    congr 1
    apply Array.ext'; simp
  rw [hex]
  exact k F I w _ hI ⟨hS.size, hS.env, .cons (.call f cs _ ys _ hys (hxs.append (dS _ _ _ fun x _ => hS'.op x))) hS.ds⟩
mutual
def conc : AV → Option Value
  | .v x => some x
  | .ifc t a => (conc a).map (.iface t)
  | .agg l => (concL l).map fun l => .agg l.toArray
  | _ => none
def concL : List AV → Option (List Value)
  | [] => some []
  | a :: l => match conc a, concL l with
    | some x, some r => some (x :: r)
    | _, _ => none
end
mutual
theorem conc_rel {I : Info} {w : World} : ∀ (a : AV) (x v : Value), conc a = some x → Rel I w a v → v = x
  | .v y, x, v, h, hr => by cases h; cases hr; rfl
  | .ifc t a, x, v, h, hr => by
    simp only [conc, Option.map_eq_some_iff] at h
    obtain ⟨y, hy, rfl⟩ := h
    cases hr with
    | ifc _ _ z hz => rw [conc_rel a y z hy hz]
  | .agg l, x, v, h, hr => by
    simp only [conc, Option.map_eq_some_iff] at h
    obtain ⟨y, hy, rfl⟩ := h
    cases hr with
    | agg _ xs hl hr => rw [concL_rel l y xs hy ⟨hl, hr⟩]
  | .sl .., _, _, h, _ | .cp .., _, _, h, _ | .pt .., _, _, h, _ | .vw .., _, _, h, _ | .tup .., _, _, h, _ | .fn .., _, _, h, _ | .any, _, _, h, _ | .anyk .., _, _, h, _ | .anyi, _, _, h, _ | .mp .., _, _, h, _ | .rp .., _, _, h, _ | .mk .., _, _, h, _ | .yl .., _, _, h, _ => by simp [conc] at h
theorem concL_rel {I : Info} {w : World} : ∀ (l : List AV) (xs vs : List Value), concL l = some xs → RelL I w l vs → vs = xs
  | [], xs, vs, h, hr => by simp only [concL, Option.some.injEq] at h; rw [hr.out_nil, h]
  | a :: l, xs, vs, h, hr => by
    obtain ⟨v, vs', rfl, h1, h2⟩ := hr.out_cons
    simp only [concL] at h
    split at h
    · rename_i x r hx hrr
      cases h
      rw [conc_rel a x v hx h1, concL_rel l r vs' hrr h2]
    · cases h
end
theorem AO.panic {rest : List Nat} {d : Option Nat} {x : Operand} {t : TypeId} {v : Value} {T : TypeId} {pos : String} {after : Array Edge} {g : Option (Nat × Bool)} {e : Env} {ds : List ADef} {A : List Chunk}
    (hx : conc (opv e x) = some (.iface t v)) (k : Q (.panic [{ v := .iface t v, recovered := false }]) ⟨e, ds, A⟩) :
    AO P ro N ops Q rest ⟨d, .panic x, T, pos, after, g⟩ ⟨e, ds, A⟩ := fun F I w a hI hS => by
  have hv := conc_rel _ _ _ hx (hS.op x)
  refine ⟨fun _ _ => cQ _, ?_⟩
  have hex : (Oper.semAt (cN ro).round a.eval ⟨d, .panic x, T, pos, after, g⟩).run P w = .halt (.panic (.iface t v)) w := by
    rw [Oper.semAt_eq _ _ _ (fun c h => by cases h)]
    simp only [execOp, hv, Instr.panic, Sem.run_bind]
    rfl
  rw [hex]
  exact ⟨I, ⟨e, ds, A⟩, bI _ _, hI, hS, k⟩
end
end Go.Av
namespace Go.Av
open Go.RowKit
section
variable {H : Type} {enc : TypeId × Value → H}
end
theorem pw {P : Program} {w : World} {n : String} {d : DataW Unit} : ∀ {l : List (String × DataW Unit)} {ps : List MemPlace}, DataW.LaidVars P w l ps → (n, d) ∈ l →
    ∃ g t cs fuel p, P.globalNamed n = some g ∧ (P.globals[g]?).map (·.type) = some t ∧ w.var? P n = some cs ∧ DataW.trod (fun _ => ()) P w 0 (fun _ => true) false fuel t cs.toList = some (d, p)
  | [], _, _, hm => by cases hm
  | (n', d') :: r, ps, h, hm => by
    obtain ⟨g, t, cs, fuel, p, q, h1, h2, h3, h4, h5, _⟩ := h
    rcases List.mem_cons.1 hm with hm | hm
    · cases hm; exact ⟨g, t, cs, fuel, p, h1, h2, h3, h4⟩
    · exact pw h5 hm
theorem mQ {H : Type} {tok : TypeId × Value → H} {P : Program} {w : World} {base : Nat} {fits : Nat → Bool} {b : Bool} {fuel t : Nat} {vs : List Value} {r : DataW H × List MemPlace} {ms : Array (String × TypeId)} (hT : P.underlying t = some (.interface ms))
    (h : DataW.trod tok P w base fits b fuel t vs = some r) : vs = [.nilIface] ∨ ∃ u v, vs = [.iface u v] := by
  cases fuel with
  | zero => simp [DataW.trod] at h
  | succ n =>
    unfold DataW.trod at h
    rw [hT] at h
    split at h <;> first | (exact .inl rfl) | (exact .inr ⟨_, _, rfl⟩) | simp_all
theorem laid_iface {P : Program} {w : World} {l : List (String × DataW Unit)} {n : String} {d : DataW Unit} {g t : Nat} {ms : Array (String × TypeId)} (h : laidMet P l w) (hm : (n, d) ∈ l) (hg : P.globalNamed n = some g) (ht : (P.globals[g]?).map (·.type) = some t) (hT : P.underlying t = some (.interface ms)) : ∃ v, w.cell? ⟨g, 0, none⟩ = some v ∧ (v = .nilIface ∨ ∃ u y, v = .iface u y) := by
  obtain ⟨ps, hl, _, _⟩ := h;obtain ⟨g', t', cs, fuel, p, h1, h2, h3, h4⟩ := pw hl hm;obtain rfl := aC (hg.symm.trans h1);obtain rfl := aC (ht.symm.trans h2)
  have hc := World.var?_cell hg h3 0
  rcases mQ hT h4 with h5 | ⟨u, v, h5⟩
  · exact ⟨.nilIface, by rw [hc]; have := congrArg (·[0]?) h5; simpa using this, .inl rfl⟩
  · exact ⟨.iface u v, by rw [hc]; have := congrArg (·[0]?) h5; simpa using this, .inr ⟨u, v, rfl⟩⟩
theorem rel_var {w : World} {g : Nat} {v : Value} {c : AV} (h : w.cell? ⟨g, 0, none⟩ = some v) (hr : Rel (Info.start w) w c v) : Rel (Info.start w) w (.cp [c]) (.pointer (some ⟨g, 0, none⟩)) := by
  refine .cp [c] g 0 (fun _ => v) (mg (qB h).1) (fun j hj => ?_) (fun j hj => ?_)
  · have : j = 0 := by simpa using hj
    subst this; exact h
  · have : j = 0 := by simpa using hj
    subst this; exact hr
theorem rel_anyi {I : Info} {w : World} {v : Value} (h : v = .nilIface ∨ ∃ u y, v = .iface u y) : Rel I w .anyi v := by
  rcases h with rfl | ⟨u, y, rfl⟩
  · exact .anyi0
  · exact .anyi1 u y
end Go.Av
namespace Go.Av
open Go.RowKit Go.Pv
def PanOr {ρ : Type} (ok : ρ → AE → List Chunk → Prop) (ch : Int → List PanicEntry) : Res ρ → AE → List Chunk → Prop
  | .ok r => ok r
  | .pan e => fun ae A' => ae = .pan (ch e) ∧ A' = []
def lC (v : Value) : List PanicEntry := [{ v := v, recovered := false }]
section
variable {P : Program} {ro : Option Nat} {N : Nat} {Q : dF} {ops : Array Oper}
theorem AO.callPan {rest : List Nat} {d : Nat} {f : FuncId} {args : Array Operand} {argTypes : Array TypeId} {T : TypeId} {pos : String} {after : Array Edge} {g : Option (Nat × Bool)} {e : Env} {ds : List ADef} {A A1 B : List Chunk} {c : List PanicEntry} {avs : List AV} (is : List Nat)
    (hd : Nat.blt d N = true) (hf : ∀ args w, (callFunc f args).run P w = .ok (.enter f args) w) (ha : args.toList.map (opv e) = avs)
    (h : ACalls P f avs A1 (fun ae A' => ae = .pan c ∧ A' = [])) (p : fP A is = some (A1, B)) (k : Q (.panic c) ⟨e, ds, B⟩) :
    AO P ro N ops Q rest ⟨some d, .call ⟨.value (.func f), args, argTypes⟩, T, pos, after, g⟩ ⟨e, ds, A⟩ :=
  ee B hd hf ha h (cw is _ _ _ p) (fun av A' ⟨h1, _⟩ => by cases h1) (fun c' A' ⟨h1, h2⟩ => by cases h1; subst h2; exact k)
theorem AO.panicT {rest : List Nat} {d : Option Nat} {x : Operand} {c : List PanicEntry} {t : TypeId} {v : Value} {T : TypeId} {pos : String} {after : Array Edge} {g : Option (Nat × Bool)} {e : Env} {ds : List ADef} {A : List Chunk}
    (hx : conc (opv e x) = some (.iface t v)) (hc : lC (.iface t v) = c) (k : Q (.panic c) ⟨e, ds, A⟩) :
    AO P ro N ops Q rest ⟨d, .panic x, T, pos, after, g⟩ ⟨e, ds, A⟩ := AO.panic hx (by subst hc; exact k)
mutual
theorem conc_mk {I : Info} {w : World} : ∀ (a : AV) (x : Value), conc a = some x → Rel I w a x
  | .v y, x, h => by cases h; exact .v _
  | .ifc t a, x, h => by
    simp only [conc, Option.map_eq_some_iff] at h
    obtain ⟨y, hy, rfl⟩ := h;exact .ifc _ _ _ (conc_mk a y hy)
  | .agg l, x, h => by
    simp only [conc, Option.map_eq_some_iff] at h
    obtain ⟨y, hy, rfl⟩ := h
    have := concL_mk (I := I) (w := w) l y hy
    exact .agg _ _ this.1 this.2
  | .sl .., _, h | .cp .., _, h | .pt .., _, h | .vw .., _, h | .tup .., _, h | .fn .., _, h | .any, _, h | .anyk .., _, h | .anyi, _, h | .mp .., _, h | .rp .., _, h | .mk .., _, h | .yl .., _, h => by simp [conc] at h
theorem concL_mk {I : Info} {w : World} : ∀ (l : List AV) (xs : List Value), concL l = some xs → RelL I w l xs
  | [], xs, h => by simp only [concL, Option.some.injEq] at h; subst h; exact dZ
  | a :: l, xs, h => by
    simp only [concL] at h
    split at h
    · rename_i x r hx hrr
      cases h
      exact dH (conc_mk a x hx) (concL_mk l r hrr)
    · cases h
end
variable {e : Env} {d : Option Nat} {T : TypeId} {pos : String} {after : Array Edge} {g : Option (Nat × Bool)} {x : Operand}
theorem lF {t t0 : TypeId} {a : AV} {D : TypeDesc} (hT : P.underlying t = some D) (hD : (match D with | .interface _ => true | _ => false) = false) (hx : opv e x = .ifc t a) :
    OpS P ⟨d, .typeAssert x t0 t true, T, pos, after, g⟩ e (.tup [a, B true]) := fun I w ρ hρ => by
  have h := hx ▸ hρ x
  generalize e1 : ρ x = v at h
  cases h with
  | ifc _ _ y hy =>
    refine ⟨.tuple #[y, .bool true], .tup _ [y, .bool true] rfl (dH hy (dH (.v _) dZ)).2, fun w' _ _ => ?_⟩
    simp only [execOp, e1, Instr.typeAssert, Sem.run_bind, run_underlying hT, Result.andThen_ok]
    cases D <;> first | (cases hD; done) | simp only [if_true, Sem.run_pure, Result.andThen_ok, Sem.run_bind]
def CellV (P : Program) (e : Env) (A : List Chunk) (a t : Nat) (av : AV) : Prop := ∀ F I w v, Inv I (A ++ F) w → Rel I w (ev e a) v → ∃ p x, (asAddr v).run P w = .ok p w ∧ (loadVar t p).run P w = .ok x w ∧ Rel I w av x
theorem CellV.one {e : Env} {A : List Chunk} {a t o off : Nat} (i : Nat) {cs : List AV} {c : AV} {D : TypeDesc} (hT : P.underlying t = some D) (hD : gq D = false) (hx : ev e a = .pt o off) (hA : A[i]? = some (.obj o cs)) (hc : cs[off]? = some c) : CellV P e A a t c := fun F I w v hI hv => by
  rw [hx] at hv
  cases hv with
  | pt o off b ho =>
    obtain ⟨b', arr, ho', he, hca, hrl⟩ := hI.holds _ (gp hA F)
    rw [ho] at ho'; cases ho'
    have hlt : off < cs.length := (List.getElem?_eq_some_iff.1 hc).1
    have hlt' : off < arr.length := by rw [hrl.1]; exact hlt
    have h0 : w.cell? ⟨b, off, none⟩ = some (arr.getD off undef) := by rw [hca.cell]; simp [List.getD, hlt']
    have hr := hrl.2 off hlt
    rw [(List.getElem?_eq_some_iff.1 hc).2] at hr
    refine ⟨⟨b, off, none⟩, _, rfl, ?_, hr⟩
    simp only [loadVar, Sem.run_bind, fB hT hD, Result.andThen_ok, Bool.false_eq_true, if_false, run_load, h0]
theorem CellV.agg {e : Env} {A : List Chunk} {a t o off n : Nat} (i : Nat) {cs : List AV} {D : TypeDesc} (hT : P.underlying t = some D) (hD : gq D = true) (hsz : br P t = some n) (hx : ev e a = .pt o off) (hA : A[i]? = some (.obj o cs)) (hn : off + n ≤ cs.length) : CellV P e A a t (.agg ((cs.drop off).take n)) := fun F I w v hI hv => by
  rw [hx] at hv
  cases hv with
  | pt o off b ho =>
    obtain ⟨b', arr, ho', he, hca, hrl⟩ := hI.holds _ (gp hA F)
    rw [ho] at ho'; cases ho'
    have hl : (loadCells ⟨b, off, none⟩ n).run P w = .ok ((List.range n).map fun j => arr.getD (off + j) undef).toArray w := run_loadCells w _ n _ (fun j hj => by
      rw [cG, hca.cell, au (by rw [hrl.1]; omega)]
      simp [List.getD, show off + j < arr.length by rw [hrl.1]; omega])
    refine ⟨⟨b, off, none⟩, _, rfl, ?_, .agg _ ((List.range n).map fun j => arr.getD (off + j) undef) (by simp; omega) (fun j hj => ?_)⟩
    · simp only [loadVar, fB hT hD, if_true, bu hsz, hl, Sem.run_bind, Sem.run_pure, Result.andThen_ok]
    · have hj' : j < n := by simp at hj; omega
      have h1 := hrl.2 (off + j) (by omega)
      simp only [List.getElem_take, List.getElem_drop, List.getD, List.getElem?_map, List.getElem?_range hj', Option.map_some, Option.getD_some]
      simpa [List.getD] using h1
abbrev _root_.Go.Av.dI := @CellV.agg
theorem dD {fn : Func} {e : Env} {ds : List ADef} {A : List Chunk} {av : AV} (h : ResT P fn N e A av) : ResV P fn N ⟨e, ds, A⟩ av := fun F I w a hI hS => h F I w a.tmps hI hS.size hS.env
def Recovers (u : FrameMode) (v : Value) (u' : FrameMode) : Prop := (∃ older, u = .panicking ({ v := v, recovered := false } :: older) ∧ u' = .panicking ({ v := v, recovered := true } :: older)) ∨ (u = .returning ∧ v = .nilIface ∧ u' = .returning)
theorem Recovers.pan {v : Value} : Recovers (.panicking (lC v)) v (.panicking [{ v := v, recovered := true }]) := .inl ⟨[], rfl, rfl⟩
theorem Recovers.ret : Recovers .returning .nilIface .returning := .inr ⟨rfl, rfl, rfl⟩
end
end Go.Av
namespace Go.Av
open Go.RowKit Go.Pv
section
variable {α : Type} {E : Enc α}
end
section
variable {P : Program} {e : Env} {d : Option Nat} {T T2 : TypeId} {pos : String} {after : Array Edge} {g : Option (Nat × Bool)} {x y z : Operand} {av : AV} {A : List Chunk}
theorem fN {f : Fn} {first captured : Array Operand} {as_ bs : List AV} (h1 : first.toList.map (opv e) = as_) (h2 : captured.toList.map (opv e) = bs) : OpS P ⟨d, .makeFunc f first captured, T2, pos, after, g⟩ e (.fn f as_ bs) := fun I w ρ hρ => by
  have r1 : RelL I w as_ (first.toList.map ρ) := by rw [← h1]; exact dS _ _ _ fun x _ => hρ x
  have r2 : RelL I w bs (captured.toList.map ρ) := by rw [← h2]; exact dS _ _ _ fun x _ => hρ x
  refine ⟨.func f (first.map ρ) (captured.map ρ), ?_, fun w' _ _ => rfl⟩
  have := Rel.fn (I := I) (w := w) f as_ bs _ _ r1.1 r1.2 r2.1 r2.2
  rwa [show (first.toList.map ρ).toArray = first.map ρ by apply Array.ext'; simp, show (captured.toList.map ρ).toArray = captured.map ρ by apply Array.ext'; simp] at this
theorem bV {cs : List AV} {c : AV} {len El k : Nat} {q : IntKind} {i : Nat} {D : TypeDesc} (hT : P.underlying T = some (.array len El)) (hE : P.underlying El = some D) (hD : gq D = false) (hsz : br P El = some 1) (hx : opv e x = .agg cs) (hy : opv e y = .v (.int q (i : Int))) (hi : Nat.blt i len = true) (hc : cs[i]? = some c) :
    OpS P ⟨d, .index T x y, T2, pos, after, g⟩ e c := fun I w ρ hρ => by
  have ey := bS (hy ▸ hρ y)
  have h := hx ▸ hρ x
  generalize e1 : ρ x = v at h
  have hi' : i < len := ab hi
  cases h with
  | agg cs xs hl hr =>
    obtain ⟨hlt, rfl⟩ := List.getElem?_eq_some_iff.1 hc
    have hlt' : i < xs.length := by omega
    refine ⟨xs.getD i undef, hr i hlt, fun w' _ _ => ?_⟩
    simp only [execOp, e1, ey, Instr.index, asIntOf, Sem.run_bind, Sem.run_pure, Result.andThen_ok, run_underlying hT, bu hsz, part, fB hE hD]
    rw [if_pos ⟨by omega, by omega⟩]
    simp [bu hsz, part, fB hE hD, hlt', List.getD]
theorem jW {o off len El : Nat} {q : IntKind} {i : Int} (hT : P.underlying T = some (.array len El)) (hsz : br P El = some 1) (hx : opv e x = .pt o off) (hy : opv e y = .v (.int q i)) (hg : cA i len = true) :
    OpS P ⟨d, .indexAddr T x y, T2, pos, after, g⟩ e (.pt o (off + i.toNat)) := by
  obtain ⟨h1, h2⟩ := jE hg
  have := gV (P := P) (d := d) (pos := pos) (after := after) (g := g) (T2 := T2) (Ar := 0) (m := i.toNat) hT hsz hx hy (Int.toNat_of_nonneg h1).symm (by omega)
  simpa using this
theorem mo {f g : Nat → Option (Nat × Nat)} : ∀ (parts : List (Nat × Value)) (cells : Array Value), (∀ p ∈ parts, f p.1 = g p.1) → Instr.fill f cells parts = Instr.fill g cells parts
  | [], _, _ => rfl
  | p :: r, cells, h => by
    have h1 := h p (List.mem_cons_self ..)
    have h2 : ∀ c, Instr.fill f c r = Instr.fill g c r := fun c => mo r c fun q hq => h q (List.mem_cons_of_mem _ hq)
    obtain ⟨i, x⟩ := p
    simp only [Instr.fill, h1, h2]
theorem pW {parts : Array (Nat × Operand)} {zs : List Value} {cs : List AV} {len El k : Nat} (hT : P.underlying T = some (.array len El)) (hsz : br P El = some k) (hz : zeroCells P T = some zs) (hb : (parts.toList.all fun p => Nat.blt p.1 len) = true)
    (hok : lP e parts.toList = true) (hf : lL ((List.range len).map fun i => (i * k, k)) (zs.map .v) (parts.toList.map fun p => (p.1, opv e p.2)) = some cs) : OpS P ⟨d, .build T parts, T2, pos, after, g⟩ e (.agg cs) := fun I w ρ hρ => by
  have hok' : ∀ p ∈ parts.toList, bw (opv e p.2) = true ∨ ∃ cs, opv e p.2 = .agg cs := fun p hp => by
    have h := List.all_eq_true.1 hok p hp
    cases hc : bw (opv e p.2) with
    | true => exact .inl rfl
    | false => rw [hc, Bool.false_or] at h; exact .inr (oq h)
  have hb' : ∀ p ∈ parts.toList, p.1 < len := fun p hp => ab (List.all_eq_true.1 hb p hp)
  have hz0 : RelL I w (zs.map .v) zs := gI _
  obtain ⟨ys, hy, hyr⟩ := kJ (I := I) (w := w) ((List.range len).map fun i => (i * k, k)) _ (parts.toList.map fun p => (p.1, ρ p.2)) _ _ cs (by simp) (fun j hj => by
    have hj' : j < parts.toList.length := by simpa using hj
    simp only [List.getElem_map, List.map_map, List.getD, List.getElem?_map, au hj', Option.map_some, Option.getD_some, Function.comp]
    exact il (hρ _) (hok' _ (List.getElem_mem hj'))) hz0 hf
  refine ⟨.agg ys.toArray, .agg cs ys hyr.1 hyr.2, fun w' _ _ => ?_⟩;obtain ⟨z, hzrun, hzc⟩ := gZ hz w'
  have hpm : (parts.map fun (i, x) => (i, ρ x)).toList = parts.toList.map fun p => (p.1, ρ p.2) := by simp
  have hza : z.cells = zs.toArray := by rw [← hzc]
  have hy2 : Instr.fill (fun i => some (i * k, k)) zs.toArray (parts.toList.map fun p => (p.1, ρ p.2)) = some ys.toArray := by
    rw [← hy]
    refine mo _ _ fun p hp => ?_
    obtain ⟨q, hq, rfl⟩ := List.mem_map.1 hp
    have := hb' q hq
    simp [this]
  simp only [execOp, Instr.build, Sem.run_bind, hzrun, Result.andThen_ok, run_underlying hT, bu hsz, hpm, hza, hy2, Sem.run_pure]
end
end Go.Av
namespace Go.Av
open Go.RowKit Go.Pv
section
variable {P : Program} {e : Env} {d : Option Nat} {T T2 : TypeId} {pos : String} {after : Array Edge} {g : Option (Nat × Bool)} {x y z : Operand} {av : AV} {A : List Chunk}
theorem cM {a : AV} (hx : opv e x = a) (hc : bw a = true ∨ ∃ cs, a = .agg cs) : OpR P ⟨d, .box T x, T2, pos, after, g⟩ e A (.cp (cellsOf a)) A := fun F I w ρ hI hρ => by
  have hv := hx ▸ hρ x
  have hrl := il hv hc
  have X := hI.new_still (.cells (ρ x).cells.toList.toArray T)
  refine ⟨_, .pointer (some ⟨w.heap.size, 0, none⟩), _, _, ?_, .inl rfl, X, hI.alloc_still _, ?_⟩
  · simp only [execOp, Instr.box, newVar, newRow, Sem.run_bind, Sem.run_pure, run_newObj_alloc, Result.andThen_ok]
  · refine .cp _ w.heap.size 0 (fun j => (ρ x).cells.toList.getD j undef) (fun m hm => by simp [Info.still] at hm) (fun j hj => ?_) (fun j hj => (hrl.2 j hj).mono X)
    have hj' : j < (ρ x).cells.toList.length := by rw [hrl.1]; exact hj
    have hh := bW w (.cells (ρ x).cells.toList.toArray T)
    simp only [World.cell?, hh, Nat.zero_add]
    have hj2 : j < (ρ x).cells.size := by simpa using hj'
    simp [List.getD, hj2]
theorem Inv.freezeCp {I : Info} {A : List Chunk} {w : World} {o : Nat} {cs : List AV} (h : Inv I (.obj o cs :: A) w) : ∃ I', Ext I w I' w ∧ Inv I' A w ∧ ∀ v, Rel I w (.pt o 0) v → Rel I' w (.cp cs) v := by
  obtain ⟨b, arr, ho, he, hca, hrl⟩ := h.holds _ (List.mem_cons_self ..)
  have hbl : (Chunk.obj o cs).blk I = some b := ho
  have E : Ext I w (I.stillN b cs.length) w := by
    refine ⟨rfl, rfl, rfl, Nat.le_refl _, fun b' hb' => ⟨rfl, ?_⟩, fun _ _ _ => rfl, fun b' m hs => ?_, fun _ _ x => x, fun _ _ x => x, fun _ _ x => x⟩
    · simp only [Info.stillN]
      rw [if_neg]
      · exact hb'
      · rintro rfl; rw [he] at hb'; cases hb'
    · intro q hq
      simp only [Info.stillN] at hq
      by_cases e : b' = b
      · subst e
        have := hs 0 he
        omega
      · rw [if_neg e] at hq; exact hs q hq
  refine ⟨I.stillN b cs.length, E, ?_, ?_⟩
  · have hA : Inv I A w := h.sub (List.sublist_cons_self ..)
    refine hA.keep E (fun c hc b' hb' => ⟨rfl, ?_⟩) (fun b' hb' => ?_) h.ids
    · simp only [Info.stillN]; rw [if_neg (h.other hbl c hc b' hb')]
    · have hlt := hca.lt
      simp only [Info.stillN]; rw [if_neg (by omega)]; exact h.fresh b' hb'
  · intro v hv
    cases hv with
    | pt o off b' ho' =>
      rw [ho] at ho'; cases ho'
      have hlen : arr.length = cs.length := hrl.1
      refine .cp _ b 0 (fun j => arr.getD j undef) ?_ ?_ ?_
      · intro q hq
        simp only [Info.stillN, if_true, Option.some.injEq] at hq
        omega
      · intro j hj
        rw [Nat.zero_add, hca.cell, List.getD, au (by omega)]; rfl
      · intro j hj
        exact (hrl.2 j hj).mono E
end
section
variable {P : Program} {ro : Option Nat} {N : Nat} {Q : dF} {ops : Array Oper} {rest : List Nat} {e : Env} {ds : List ADef} {A : List Chunk}
theorem AR.freezeCp {o : Nat} {cs : List AV} (t i : Nat) (ht : ev e t = .pt o 0) (hA : A[i]? = some (.obj o cs)) (h : AR P ro N ops Q rest ⟨(t, .cp cs) :: e, ds, A.eraseIdx i⟩) : AR P ro N ops Q rest ⟨e, ds, A⟩ := fun F I w a hI hS => by
  have hp := jG A i _ hA
  have hI2 : Inv I (.obj o cs :: (A.eraseIdx i ++ F)) w := hI.perm (hp.append_right F)
  obtain ⟨I', X, hI', hrel⟩ := hI2.freezeCp
  have hS' := hS.mono X
  refine cH rest (fun _ _ _ => da X fun _ _ h => h) _ _ (h F I' w a hI' ⟨hS.size, fun j => ?_, hS'.ds⟩)
  have hj := hS'.env j
  simp only [ev]
  cases hb : Nat.beq t j with
  | false => exact hj
  | true =>
    have := Nat.eq_of_beq_eq_true hb
    subst this
    have hj0 := hS.env t
    simp only [ht] at hj0
    exact hrel _ hj0
end
section
variable {P : Program} {e : Env} {d : Option Nat} {T T2 : TypeId} {pos : String} {after : Array Edge} {g : Option (Nat × Bool)} {x y z : Operand} {av : AV} {A : List Chunk}
inductive WvL : List AV → List AV → Prop where
  | nil : WvL [] []
  | cons {a b : AV} {l m : List AV} (h : Wv a b) (g : WvL l m) : WvL (a :: l) (b :: m)
theorem WvL.refl : ∀ l, WvL l l
  | [] => .nil
  | a :: l => .cons (.refl a) (WvL.refl l)
theorem WvL.rel {I : Info} {w : World} : ∀ {l m : List AV} {xs : List Value}, WvL l m → RelL I w l xs → RelL I w m xs
  | _, _, _, .nil, h => h
  | _, _, _, .cons h g, hr => by
    obtain ⟨x, xs, rfl, h1, h2⟩ := hr.out_cons;exact dH (h.rel h1) (g.rel h2)
theorem CellV.aggW {a t : Nat} {cs vs : List AV} (h : CellV P e A a t (.agg cs)) (hw : WvL cs vs) : CellV P e A a t (.agg vs) := fun F I w v hI hv => by
  obtain ⟨p, x, h1, h2, h3⟩ := h F I w v hI hv
  cases h3 with
  | agg _ xs hl hr =>
    have := hw.rel ⟨hl, hr⟩
    exact ⟨p, _, h1, h2, .agg _ xs this.1 this.2⟩
theorem CellV.oneW {a t : Nat} {c v : AV} (h : CellV P e A a t c) (hw : Wv c v) : CellV P e A a t v := fun F I w u hI hv => by
  obtain ⟨p, x, h1, h2, h3⟩ := h F I w u hI hv;exact ⟨p, x, h1, h2, hw.rel h3⟩
end
section
variable {P : Program}
end
section
variable {P : Program} {e : Env} {d : Option Nat} {T T2 T' : TypeId} {pos : String} {after : Array Edge} {g : Option (Nat × Bool)} {x y z : Operand}
theorem oV {op : BinOp} {t : TypeId} {a : AV} {ms : List Method} {D : TypeDesc} (hop : op = .eql ∨ op = .neq) (hT : P.underlying T = some D) (hD : (match D with | .interface _ => true | _ => false) = true) (hx : opv e x = .ifc t a) : OpS P ⟨d, .binOp op T x (.const .nilIface) T', T2, pos, after, g⟩ e (B (if op = .eql then false else true)) := fun I w ρ hρ => by
  have h1 := hx ▸ hρ x
  have h2 := bS (hρ (.const .nilIface))
  generalize e1 : ρ x = u at h1
  cases h1 with
  | ifc _ _ y hy =>
    refine ⟨.bool (if op = .eql then false else true), .v _, fun w' _ _ => ?_⟩
    have hg : (eqGuard op T x (.const .nilIface) (.iface t y) .nilIface).run P w' = .ok () w' := nu (.inr ⟨_, _, rfl⟩) w'
    have hq : (Op.equal T (.iface t y) .nilIface).run P w' = .ok false w' := by
      cases D <;> first
        | (simp at hD; done)
        | (unfold Op.equal; rw [show Op.maxDepth = 9999 + 1 from rfl, Op.equalIn]; simp only [Sem.run_bind, run_underlying hT, Result.andThen_ok]; rfl)
    rcases hop with rfl | rfl
    · simp only [execOp, e1, h2, Sem.run_bind, hg, Result.andThen_ok, binOp, hq, Sem.run_pure, if_true]
    · simp only [execOp, e1, h2, Sem.run_bind, hg, Result.andThen_ok, binOp, hq, Sem.run_pure]; rfl
end
section
variable {P : Program} {N : Nat} {fn : Func} {e : Env} {A : List Chunk} {av bv cv : AV}
def PlaceV (P : Program) (e : Env) (A : List Chunk) : ResultVar → AV → Prop
  | .tmp t, av => Wv (ev e t) av
  | .cell a t, av => CellV P e A a t av
def mA (tmps : Array Value) : ResultVar → Sem Value
  | .tmp t => pure (tmps.getD t undef)
  | .cell a t => do loadVar t (← asAddr (tmps.getD a undef))
theorem PlaceV.run {r : ResultVar} (h : PlaceV P e A r av) {F : List Chunk} {I : Info} {w : World} {tmps : Array Value} (hI : Inv I (A ++ F) w) (ht : ∀ t, Rel I w (ev e t) (tmps.getD t undef)) : ∃ x, (mA tmps r).run P w = .ok x w ∧ Rel I w av x := by
  cases r with
  | tmp t => exact ⟨_, rfl, Wv.rel h (ht t)⟩
  | cell a t =>
    obtain ⟨p, x, h1, h2, h3⟩ := h F I w _ hI (ht a);exact ⟨x, by simp only [mA, Sem.run_bind, h1, Result.andThen_ok, h2], h3⟩
theorem jP (tmps : Array Value) : results fn tmps = (do let vs ← fn.results.mapM (mA tmps); pure (if h : vs.size = 1 then vs[0] else .tuple vs)) := by
  unfold results
  congr 1
theorem eL {r : ResultVar} (hr : fn.results = #[r]) (h : PlaceV P e A r av) : ResT P fn N e A av := fun F I w tmps hI hs ht => by
  obtain ⟨x, h1, h2⟩ := h.run hI ht;refine ⟨x, ?_, h2⟩
  rw [jP, hr]
  simp [h1]
theorem ed {r q : ResultVar} (hr : fn.results = #[r, q]) (h : PlaceV P e A r av) (g : PlaceV P e A q bv) : ResT P fn N e A (.tup [av, bv]) := fun F I w tmps hI hs ht => by
  obtain ⟨x, h1, h2⟩ := h.run hI ht;obtain ⟨y, g1, g2⟩ := g.run hI ht;refine ⟨.tuple #[x, y], ?_, .tup _ [x, y] rfl (dH h2 (dH g2 dZ)).2⟩
  rw [jP, hr]
  simp [h1, g1]
end
end Go.Av
namespace Go.Av
theorem Inv.alloc_chunk {I : Info} {A : List Chunk} {w : World} (h : Inv I A w) {o : Nat} (ho : I.obj o = none) (x : Obj) {c : Chunk} (hcb : c.blk (I.putObj o w.heap.size) = some w.heap.size)
    (hc : c.Holds (I.putObj o w.heap.size) (w.alloc x)) : Inv (I.putObj o w.heap.size) (c :: A) (w.alloc x) := by
  have X := h.new_obj ho x
  have hlt : ∀ c ∈ A, ∀ b, c.blk I = some b → b ≠ w.heap.size := fun c hc b hb e => by
    have := (h.holds c hc).blk_lt hb; omega
  have K : Inv (I.putObj o w.heap.size) A (w.alloc x) := by
    refine h.keep X (fun c hc b hb => ⟨cb _ _ _ (hlt c hc b hb), by simp only [Info.putObj]; rw [if_neg (hlt c hc b hb)]⟩) (fun b hb => ?_) ?_
    · simp only [World.size_alloc] at hb
      simp only [Info.putObj]; rw [if_neg (by omega)]; exact h.fresh b (by omega)
    · obtain ⟨n, hn⟩ := h.ids
      refine ⟨max n (o + 1), fun x hx => ?_⟩
      have := hn x (by omega)
      refine ⟨?_, this.2⟩
      simp only [Info.putObj]; rw [if_neg (by omega)]; exact this.1
  refine K.cons hc ?_;intro b hb d hd e
  rw [hcb] at hb
  have := ((h.holds d hd).keep X (fun b' hb' => ⟨cb _ _ _ (hlt d hd b' hb'), by simp only [Info.putObj]; rw [if_neg (hlt d hd b' hb')]⟩)).2
  rw [this] at e
  exact hlt d hd b e (aC hb).symm
theorem Inv.set_chunk {I : Info} {A : List Chunk} {w : World} {c c' : Chunk} {b : Nat} (h : Inv I (c :: A) w) (hcb : c.blk I = some b) (hcb' : c'.blk I = some b) (he : I.ext b = some 0)
    (hnc : ∀ cs E fz, w.heap[b]? ≠ some (.cells cs E fz)) {w' : World} (hos : w'.os = w.os) (htape : w'.tape = w.tape) (hout : w'.output = w.output) (hsz : w'.heap.size = w.heap.size)
    (hne : ∀ b', b' ≠ b → w'.heap[b']? = w.heap[b']?) (hc : Ext I w I w' → c'.Holds I w') : Ext I w I w' ∧ Inv I (c' :: A) w' := by
  have X : Ext I w I w' := by
    refine ⟨hos, htape, hout, by omega, fun c hc => ?_, fun c j hj => ?_, fun _ _ h => h, fun _ _ h => h, fun _ _ h => h, fun c E hE => ?_⟩
    · have : c ≠ b := fun e => by rw [e, he] at hc; cases hc
      exact ⟨hne c this, hc⟩
    · have : c ≠ b := fun e => by have := hj 0 (by rw [e]; exact he); omega
      simp only [World.cell?, hne c this]
    · by_cases e : c = b
      · subst e; obtain ⟨d, fz, hd⟩ := hE; exact absurd hd (hnc _ _ _)
      · obtain ⟨d, fz, hd⟩ := hE; exact ⟨d, fz, (hne c e).trans hd⟩
  have hap := h.apart (c := c) (b := b) hcb
  refine ⟨X, Inv.cons ((h.sub (List.sublist_cons_self ..)).keep X (fun d hd b' hb' => ?_) (fun b' hb' => h.fresh b' (by omega)) h.ids) (hc X) (fun b' hb' d hd e => ?_)⟩
  · have : b' ≠ b := fun e => hap d hd (by rw [← e]; exact hb')
    exact ⟨hne b' this, rfl⟩
  · exact hap d hd (by rw [hcb'] at hb'; cases hb'; exact e)
section
variable {I : Info} {A : List Chunk} {w : World} {P : Program} {o N d : Nat} {st : LoopState} {pend : Option Code} {fn : FuncId} {env : Nat → AV} {ps : Array Tmp} {asg bd : Code}
theorem jb {l : Nat} (h : Inv I (.lp o .ready pend fn N env ps asg bd d :: A) w) (ho : I.obj o = some l) :
    ∃ w', (Instr.beginRound l).run P w = .ok () w' ∧ Ext I w I w' ∧ Inv I (.lp o .busy pend fn N env ps asg bd d :: A) w' := by
  obtain ⟨b, r, ho', he, hh, a1, a2, a3, a4, a5, a6, a7, a8, a9⟩ := h.holds _ (List.mem_cons_self ..)
  rw [ho] at ho'; cases ho'
  have hlt := (Array.getElem?_eq_some_iff.1 hh).1
  refine ⟨{ w with heap := w.heap.setIfInBounds l (.loop { r with state := .busy }) }, ?_, ?_⟩
  · simp only [Instr.beginRound, Instr.getLoop, getObj, setObj, Sem.run_bind, Sem.run, hh, Result.andThen]
    simp [a1, hh]
  · refine h.set_chunk (c' := .lp o .busy pend fn N env ps asg bd d) (show Chunk.blk I (.lp o .ready pend fn N env ps asg bd d) = some l from ho) (show Chunk.blk I (.lp o .busy pend fn N env ps asg bd d) = some l from ho) he (fun _ _ _ e => by rw [hh] at e; cases e) rfl rfl rfl (by simp) (fun b' hb' => by simp only []; rw [Array.getElem?_setIfInBounds_ne (Ne.symm hb')]) fun X => ?_
    exact ⟨l, { r with state := .busy }, ho, he, by simp [hlt], rfl, a2, a3, a4, fun t => (a5 t).mono X, a6, a7, a8, a9⟩
theorem kx {l : Nat} (h : Inv I (.lp o st pend fn N env ps asg bd d :: A) w) (ho : I.obj o = some l) (jump : Option Code) :
    ∃ w', (Instr.endRound l jump).run P w = .ok (.bool jump.isNone) w' ∧ Ext I w I w' ∧ Inv I (.lp o (if jump.isNone then .ready else .done) jump fn N env ps asg bd d :: A) w' := by
  obtain ⟨b, r, ho', he, hh, a1, a2, a3, a4, a5, a6, a7, a8, a9⟩ := h.holds _ (List.mem_cons_self ..)
  rw [ho] at ho'; cases ho'
  have hlt := (Array.getElem?_eq_some_iff.1 hh).1
  refine ⟨{ w with heap := w.heap.setIfInBounds l (.loop { r with state := if jump.isNone then .ready else .done, pending := jump }) }, ?_, ?_⟩
  · simp only [Instr.endRound, Instr.getLoop, getObj, setObj, Sem.run_bind, Sem.run, hh, Result.andThen]
    simp [hh]
  · refine h.set_chunk (c' := .lp o (if jump.isNone then .ready else .done) jump fn N env ps asg bd d) (show Chunk.blk I (.lp o st pend fn N env ps asg bd d) = some l from ho) (show Chunk.blk I (.lp o (if jump.isNone then .ready else .done) jump fn N env ps asg bd d) = some l from ho) he (fun _ _ _ e => by rw [hh] at e; cases e) rfl rfl rfl (by simp) (fun b' hb' => by simp only []; rw [Array.getElem?_setIfInBounds_ne (Ne.symm hb')]) fun X => ?_
    exact ⟨l, { r with state := if jump.isNone then .ready else .done, pending := jump }, ho, he, by simp [hlt], rfl, rfl, a3, a4, fun t => (a5 t).mono X, a6, a7, a8, a9⟩
theorem lq {l : Nat} (h : Inv I (.lp o st pend fn N env ps asg bd d :: A) w) (ho : I.obj o = some l) (hs : st ≠ .busy) :
    ∃ w', (Instr.endLoop l).run P w = .ok pend w' ∧ Ext I w I w' ∧ Inv I A w' := by
  obtain ⟨b, r, ho', he, hh, a1, a2, a3, a4, a5, a6, a7, a8, a9⟩ := h.holds _ (List.mem_cons_self ..)
  rw [ho] at ho'; cases ho'
  have hlt := (Array.getElem?_eq_some_iff.1 hh).1
  have hb : (r.state == LoopState.busy) = false := by rw [a1]; cases st <;> first | rfl | exact absurd rfl hs
  obtain ⟨X, hI⟩ := h.set_chunk (c' := .lp o .exhausted pend fn N env ps asg bd d) (w' := { w with heap := w.heap.setIfInBounds l (.loop { r with state := .exhausted }) }) (show Chunk.blk I (.lp o st pend fn N env ps asg bd d) = some l from ho) (show Chunk.blk I (.lp o .exhausted pend fn N env ps asg bd d) = some l from ho) he (fun _ _ _ e => by rw [hh] at e; cases e) rfl rfl rfl (by simp) (fun b' hb' => by simp only []; rw [Array.getElem?_setIfInBounds_ne (Ne.symm hb')]) fun X =>
    ⟨l, { r with state := .exhausted }, ho, he, by simp [hlt], rfl, a2, a3, a4, fun t => (a5 t).mono X, a6, a7, a8, a9⟩
  refine ⟨_, ?_, X, hI.sub (List.sublist_cons_self ..)⟩
  simp only [Instr.endLoop, Instr.getLoop, getObj, setObj, Sem.run_bind, Sem.run, hh, Result.andThen, hb, Bool.false_eq_true, if_false]
  simp [hh, a2, Sem.run, Result.andThen]
  intro e; exact absurd (a1.symm.trans e) hs
theorem nj {l : Nat} (h : Inv I (.lp o st pend fn N env ps asg bd d :: A) w) (ho : I.obj o = some l) (args : Array Value) (hn : args.size = ps.size) :
    ∃ tmps, (Instr.yield l args).run P w = .ok (.round l fn ((ps.zip args).foldl (fun tmps (t, a) => tmps.setIfInBounds t a) tmps) asg bd) w ∧ tmps.size = N ∧ ∀ t, Rel I w (env t) (tmps.getD t undef) := by
  obtain ⟨b, r, ho', he, hh, a1, a2, a3, a4, a5, a6, a7, a8, a9⟩ := h.holds _ (List.mem_cons_self ..)
  rw [ho] at ho'; cases ho'
  refine ⟨r.tmps, ?_, a4, a5⟩
  simp only [Instr.yield, Instr.getLoop, getObj, Sem.run_bind, Sem.run, hh, Result.andThen]
  simp [a3, a6, a7, a8, hn]
theorem jO (h : Inv I A w) {tmps : Array Value} (hs : tmps.size = N) (he : ∀ t, Rel I w (env t) (tmps.getD t undef)) :
    ∃ l b o2 o1 w' I', (Instr.enterLoop fn tmps ps asg bd none).run P w = .ok (l, [{ target := .collected b, args := #[] }]) w' ∧ Ext I w I' w' ∧ I'.obj o1 = some l ∧ I'.obj o2 = some b ∧ Inv I' (.lp o1 .ready none fn N env ps asg bd o2 :: .db o2 :: A) w' := by
  obtain ⟨o2, ho2⟩ := h.fresh_obj
  have X1 := h.new_obj ho2 (.deferred (some []))
  have hI1 := h.alloc_chunk ho2 (.deferred (some [])) (c := .db o2) (by simp [Chunk.blk, Info.putObj]) ⟨w.heap.size, by simp [Info.putObj], by simp [Info.putObj], bW _ _⟩
  obtain ⟨o1, ho1⟩ := hI1.fresh_obj
  have X2 := hI1.new_obj ho1 (.loop { state := .ready, pending := none, fn, tmps, params := ps, assign := asg, body := bd, defers := w.heap.size })
  have hd : (Info.putObj I o2 w.heap.size).obj o2 = some w.heap.size := by simp [Info.putObj]
  have hI2 := hI1.alloc_chunk ho1 (.loop { state := .ready, pending := none, fn, tmps, params := ps, assign := asg, body := bd, defers := w.heap.size }) (c := .lp o1 .ready none fn N env ps asg bd o2) (by simp [Chunk.blk, Info.putObj])
    ⟨(w.alloc (.deferred (some []))).heap.size, { state := .ready, pending := none, fn, tmps, params := ps, assign := asg, body := bd, defers := w.heap.size }, by simp [Info.putObj], by simp [Info.putObj], bW _ _, rfl, rfl, rfl, hs, fun t => ((he t).mono X1).mono X2, rfl, rfl, rfl, X2.obj _ _ hd⟩
  refine ⟨(w.alloc (.deferred (some []))).heap.size, w.heap.size, o2, o1, _, _, ?_, X1.trans X2, by simp [Info.putObj], X2.obj _ _ hd, hI2⟩
  simp only [Instr.enterLoop, newObj, Sem.run_bind, Sem.run, Result.andThen]
  rfl
end
end Go.Av
namespace Go.Av
open Go.RowKit
section
variable {P : Program} {ro : Option Nat} {N : Nat} {Q : dF} {ops : Array Oper}
def fS (P : Program) (o : Nat) (args : List AV) (A : List Chunk) (R : AE → List Chunk → Prop) : Prop :=
  ∀ F I w vs l, Inv I (A ++ F) w → I.obj o = some l → RelL I w args vs → ∃ fn tmps asg bd, (Instr.yield l vs.toArray).run P w = .ok (.round l fn tmps asg bd) w ∧
    RoundIn (cN none) 0 P l fn tmps asg bd w fun e w' => ∃ I' ae A', Ext I w I' w' ∧ Inv I' (A' ++ F) w' ∧ kY I' w' ae e ∧ R ae A'
theorem rel_yl {I : Info} {w : World} {o : Nat} {v : Value} (h : Rel I w (.yl o) v) : ∃ l, v = .func (.yield l) #[] #[] ∧ I.obj o = some l := by
  cases h with
  | yl o l h => exact ⟨l, rfl, h⟩
theorem AO.yield {rest : List Nat} {d : Nat} {x : Operand} {o : Nat} {args : Array Operand} {argTypes : Array TypeId} {Ty : TypeId} {pos : String} {after : Array Edge} {g : Option (Nat × Bool)} {e : Env} {ds : List ADef} {A : List Chunk} (B T : List Chunk)
    {R : AE → List Chunk → Prop} {avs : List AV} (hd : Nat.blt d N = true) (hx : opv e x = .yl o) (ha : args.toList.map (opv e) = avs) (p : A = B ++ T)
    (h : fS P o avs T R) (k : ∀ av T', R (.ret av) T' → AR P none N ops Q rest ⟨(d, av) :: e, ds, B ++ T'⟩)
    (kp : ∀ c T', R (.pan c) T' → Q (.panic c) ⟨e, ds, B ++ T'⟩) :
    AO P none N ops Q rest ⟨some d, .call ⟨.value x, args, argTypes⟩, Ty, pos, after, g⟩ ⟨e, ds, A⟩ := fun F I w a hI hS => by
  subst p
  have hS' := hS
  obtain ⟨l, hv, ho⟩ := rel_yl (hx ▸ hS'.op x)
  have hrl : RelL I w avs (args.toList.map a.eval) := by
    rw [← ha]; exact dS _ _ _ fun x _ => hS'.op x
  have hI2 : Inv I (T ++ (B ++ F)) w := by
    refine hI.perm ?_
    rw [← List.append_assoc]
    exact (List.perm_append_comm).append_right F
  obtain ⟨fn, tmps, asg, bd, hy, hR⟩ := h (B ++ F) I w _ l hI2 ho hrl;refine ⟨fun _ _ => cQ _, ?_⟩
  have he : (#[] : Array Value) ++ args.map a.eval = (args.toList.map a.eval).toArray := by apply Array.ext'; simp
  have hex : (Oper.semAt (cN none).round a.eval ⟨some d, .call ⟨.value x, args, argTypes⟩, Ty, pos, after, g⟩).run P w = .ok (.round l fn tmps asg bd) w := by
    rw [Oper.semAt_eq _ _ _ (fun c h => by cases h)]
    simp only [execOp, resolve, hv, Deferred.ofValue, Sem.run_bind, Sem.run_pure, Result.andThen_ok, invoke, he, Array.append_empty]
    exact hy
  rw [hex]
  refine ⟨iQ, hR.mono fun en w' ⟨I', ae, A', E, hI', hre, hR⟩ => ?_⟩
  have hI3 : Inv I' ((B ++ A') ++ F) w' := by
    refine hI'.perm ?_
    rw [← List.append_assoc]
    exact (List.perm_append_comm).append_right F
  cases en with
  | returned v =>
    cases ae with
    | ret av =>
      have hk := k av A' hR F I' w' (a.put (some d) v) hI3 ((hS.mono E).put (ab hd) hre _)
      exact cH rest (fun _ _ _ => da E fun _ _ h => h) _ _ hk
    | pan c => exact hre.elim
  | panicked c =>
    cases ae with
    | ret av => exact hre.elim
    | pan c' =>
      cases hre
      exact ⟨I', ⟨e, ds, B ++ A'⟩, E, hI3, ⟨hS.size, (hS.mono E).env, (hS.mono E).ds⟩, kp _ A' hR⟩
  | outgrown => cases ae <;> exact hre.elim
def nQ {σ τ : Type} (T : σ → τ → List Chunk) (J : σ → Option Code) (R : AE → σ → Prop) : dF
  | .normal, s => ∃ s' t', R (.ret (.v (.bool true))) s' ∧ J s' = none ∧ Sub (T s' t') s.A
  | .ret, s => ∃ s' t', R (.ret (.v (.bool false))) s' ∧ J s' = some .ret ∧ Sub (T s' t') s.A
  | .exit id, s => ∃ s' t', R (.ret (.v (.bool false))) s' ∧ J s' = some (.exit id) ∧ Sub (T s' t') s.A
  | .goto l, s => ∃ s' t', R (.ret (.v (.bool false))) s' ∧ J s' = some (.goto l) ∧ Sub (T s' t') s.A
  | .panic _, _ => False
  | .outgrown, _ => False
def qn (K : St → Prop) : dF
  | .normal, s => K s
  | _, _ => False
def kh : List (Nat × AV) → Env → Env
  | [], e => e
  | p :: l, e => kh l (p :: e)
theorem kb {I : Info} {w : World} : ∀ (l : List (Nat × Value)) (m : List (Nat × AV)) (e : Env) (tmps : Array Value), tmps.size = N → (∀ t, Rel I w (ev e t) (tmps.getD t undef)) →
    l.map (·.1) = m.map (·.1) → (∀ p ∈ m, p.1 < N) → RelL I w (m.map (·.2)) (l.map (·.2)) →
    (l.foldl (fun tmps p => tmps.setIfInBounds p.1 p.2) tmps).size = N ∧ ∀ t, Rel I w (ev (kh m e) t) ((l.foldl (fun tmps p => tmps.setIfInBounds p.1 p.2) tmps).getD t undef)
  | [], m, e, tmps, hs, he, hk, hN, hr => by
    cases m with
    | nil => exact ⟨hs, he⟩
    | cons q m => simp at hk
  | p :: l, m, e, tmps, hs, he, hk, hN, hr => by
    cases m with
    | nil => simp at hk
    | cons q m =>
      simp only [List.map_cons, List.cons.injEq] at hk
      have hr' : RelL I w (q.2 :: m.map (·.2)) (p.2 :: l.map (·.2)) := hr
      have hS : RelS N I w ⟨e, [], []⟩ { tmps := tmps, defers := [] } := ⟨hs, he, .nil⟩
      have hp := hS.put (d := p.1) (by rw [hk.1]; exact hN q (List.mem_cons_self ..)) hr'.head []
      refine kb l m (q :: e) _ (by simpa using hs) (fun t => ?_) hk.2 (fun r hr => hN r (List.mem_cons_of_mem _ hr)) hr'.tail
      have := hp.env t
      have hq : q = (p.1, q.2) := by rw [hk.1]
      rw [hq]
      exact this
abbrev _root_.Go.Av.cd := @List.perm_middle
theorem kC (c d : Chunk) (A B C : List Chunk) : (A ++ (c :: B) ++ (d :: C)).Perm (c :: d :: (A ++ B ++ C)) := by
  have h1 : (A ++ (c :: B) ++ (d :: C)).Perm (d :: (A ++ (c :: B) ++ C)) := cd
  have h2 : (A ++ (c :: B) ++ C).Perm (c :: (A ++ B ++ C)) := by
    rw [List.append_assoc, List.append_assoc, List.cons_append]
    exact cd
  exact h1.trans ((h2.cons d).trans (List.Perm.swap ..))
theorem AW.rangeFunc {α σ τ : Type} {gf : Operand} {ps : Array Tmp} {asg bd : Code} {f : FuncId} {fs cs : List AV} {e : Env} {ds : List ADef} {A : List Chunk}
    (enc : α → List AV) (Own B : List Chunk) (T : σ → τ → List Chunk) (J : σ → Option Code) (D : σ → α → Prop) (RR : σ → α → AE → σ → Prop) (RE : AV → σ → List Chunk → Prop) (s₀ : σ) (t₀ : τ)
    (hg : opv e gf = .fn (.func f) fs cs) (hf : ∀ args w, (callFunc f args).run P w = .ok (.enter f args) w) (hps : ∀ x, (enc x).length = ps.size) (hN : ∀ p ∈ ps.toList, p < N)
    (p : A.Perm (Own ++ (T s₀ t₀ ++ B))) (hJ : J s₀ = none)
    (hround : ∀ l s t x, D s x → J s = none ∧ AW P (some l) N asg (qn (AW P (some l) N bd (nQ T J (RR s x)))) ⟨kh (ps.toList.zip (enc x)) e, [], T s t⟩)
    (hiter : ∀ (o : Nat) (T' : σ → τ → List Chunk), (∀ s t x, D s x → fS P o (enc x) (T' s t) fun ae A' => ∃ s' t', RR s x ae s' ∧ A' = T' s' t') →
      ACalls P f (fs ++ [.yl o] ++ cs) (Own ++ T' s₀ t₀) fun ae A' => ∃ v s₁ t₁ A1, ae = .ret v ∧ RE v s₁ A1 ∧ A' = A1 ++ T' s₁ t₁)
    (k : ∀ o2 v s₁ t₁ A1, RE v s₁ A1 → match J s₁ with
      | none => Q .normal ⟨e, .mark o2 :: ds, .db o2 :: (A1 ++ (T s₁ t₁ ++ B))⟩
      | some c => AW P none N c Q ⟨e, .mark o2 :: ds, .db o2 :: (A1 ++ (T s₁ t₁ ++ B))⟩) :
    AW P none N (.rangeFunc gf ps asg bd) Q ⟨e, ds, A⟩ := fun F I w a hI hS => by
  refine wpIn_rangeFunc fun fn hfn => ?_
  have hS0 := hS
  obtain ⟨xs, ys, hv, hxs, hys⟩ := ox (hg ▸ hS0.op gf);obtain ⟨l, b, o2, o1, w1, I1, hrun, E1, ho1, ho2, hI1⟩ := jO (P := P) (fn := fn) (ps := ps) (asg := asg) (bd := bd) (env := fun t => ev e t) hI hS.size hS.env
  have hS1 := hS.mono E1
  have he : xs.toArray ++ #[Value.func (.yield l) #[] #[]] ++ ys.toArray = (xs ++ [Value.func (.yield l) #[] #[]] ++ ys).toArray := by apply Array.ext'; simp
  refine ⟨l, _, w1, { target := .fn (.func f) ys.toArray, args := xs.toArray ++ #[Value.func (.yield l) #[] #[]] }, w1, f, (xs ++ [Value.func (.yield l) #[] #[]] ++ ys).toArray, w1, hrun, ?_, fun _ _ => cQ _, ?_, iQ, ?_⟩
  · have := gj (P := P) (ρ := a.eval) (args := #[.const (.func (.yield l) #[] #[])]) (argTypes := #[]) (T := 0) (w := w1) hv
    simpa [rangeCall, Act.eval] using this
  · simp only [invoke, he]
    exact hf _ _
  -- the record's chunk
  obtain ⟨LP, hLP⟩ : ∃ LP : LoopState → Option Code → Chunk, LP = fun st j => .lp o1 st j fn N (fun t => ev e t) ps asg bd o2 := ⟨_, rfl⟩
  obtain ⟨T', hT'⟩ : ∃ T' : σ → τ → List Chunk, T' = fun s t => LP (if (J s).isNone then .ready else .done) (J s) :: T s t := ⟨_, rfl⟩
  have hY : ∀ s t x, D s x → fS P o1 (enc x) (T' s t) fun ae A' => ∃ s' t', RR s x ae s' ∧ A' = T' s' t' := by
    intro s t x hD F' I' w' vs l' hI' hol hrl;obtain ⟨hJs, hwalk⟩ := hround l' s t x hD
    have hT0 : T' s t = LP .ready none :: T s t := by rw [hT']; simp [hJs]
    rw [hT0] at hI'
    rw [hLP] at hI'
    obtain ⟨tmps, hyr, hts, htr⟩ := nj (P := P) (A := T s t ++ F') hI' hol vs.toArray (by rw [List.size_toArray, hrl.1]; exact hps x);refine ⟨fn, _, asg, bd, hyr, roundIn_of_wpIn hfn ?_⟩
    have hlen : vs.length = ps.toList.length := by rw [hrl.1, hps x]; simp
    have hzip : (ps.zip vs.toArray).toList = ps.toList.zip vs := by simp
    have hfold : (ps.zip vs.toArray).foldl (fun tmps p => tmps.setIfInBounds p.1 p.2) tmps = (ps.toList.zip vs).foldl (fun tmps p => tmps.setIfInBounds p.1 p.2) tmps := by
      rw [← hzip, Array.foldl_toList]
    have hput := kb (N := N) (ps.toList.zip vs) (ps.toList.zip (enc x)) e tmps hts htr
      (by rw [List.map_fst_zip (by omega), List.map_fst_zip (by have := hps x; simp; omega)])
      (fun q hq => hN _ (List.of_mem_zip hq).1)
      (by rw [List.map_snd_zip (by have := hps x; simp; omega), List.map_snd_zip (by omega)]; exact hrl)
    have hIp : Inv I' (T s t ++ (LP .ready none :: F')) w' := by
      rw [hLP]
      refine hI'.perm ?_;exact (cd).symm
    have hSr : RelS N I' w' ⟨kh (ps.toList.zip (enc x)) e, [], T s t⟩ { tmps := (ps.zip vs.toArray).foldl (fun tmps (p : Nat × Value) => tmps.setIfInBounds p.1 p.2) tmps, defers := [] } := by
      refine ⟨(congrArg Array.size hfold).trans hput.1, fun t0 => ?_, .nil⟩
      have h0 := hput.2 t0
      rw [← hfold] at h0
      exact h0
    refine wpIn_mono (hwalk (LP .ready none :: F') I' w' _ hIp hSr) fun e1 a1 w1' hq1 => ?_
    obtain ⟨I2, s2, E2, hI2, hS2, hq1⟩ := hq1
    cases e1 with
    | normal =>
      have hI2p : Inv I2 (.lp o1 .ready none fn N (fun t => ev e t) ps asg bd o2 :: (s2.A ++ F')) w1' := by
        refine hI2.perm ?_
        rw [hLP]
        exact cd
      obtain ⟨w2, hbr, E3, hI3⟩ := jb (P := P) hI2p (E2.obj _ _ hol);refine ⟨w2, hbr, ?_⟩
      have hI3p : Inv I2 (s2.A ++ (.lp o1 .busy none fn N (fun t => ev e t) ps asg bd o2 :: F')) w2 := hI3.perm (cd).symm
      refine wpIn_mono (hq1 _ I2 w2 a1 hI3p (hS2.mono E3)) fun e3 a3 w3 hq3 => ?_
      obtain ⟨I4, s4, E4, hI4, hS4, hq3⟩ := hq3
      have hol4 := E4.obj _ _ (E3.obj _ _ (E2.obj _ _ hol))
      have E14 := (E2.trans E3).trans E4
      have fin : ∀ (jump : Option Code) (s' : σ) (t' : τ), J s' = jump → Sub (T s' t') s4.A → RR s x (.ret (.v (.bool jump.isNone))) s' →
          ∃ v w5, (Instr.endRound l' jump).run P w3 = .ok v w5 ∧ ∃ I5 ae A', Ext I' w' I5 w5 ∧ Inv I5 (A' ++ F') w5 ∧ kY I5 w5 ae (.returned v) ∧ ∃ s' t', RR s x ae s' ∧ A' = T' s' t' := by
        intro jump s' t' hj hsub hr
        have hI4p : Inv I4 (.lp o1 .busy none fn N (fun t => ev e t) ps asg bd o2 :: (T s' t' ++ F')) w3 := by
          have h1 := hsub.inv hI4
          exact h1.perm cd
        obtain ⟨w5, hend, E5, hI5⟩ := kx (P := P) hI4p hol4 jump;refine ⟨_, w5, hend, I4, .ret (.v (.bool jump.isNone)), T' s' t', E14.trans E5, ?_, .v _, s', t', hr, rfl⟩
        have : T' s' t' = .lp o1 (if jump.isNone then .ready else .done) jump fn N (fun t => ev e t) ps asg bd o2 :: T s' t' := by rw [hT', hLP, ← hj]
        rw [this]
        exact hI5
      cases e3 with
      | normal => obtain ⟨s', t', hr, hj, hsub⟩ := hq3; exact fin none s' t' hj hsub hr
      | ret => obtain ⟨s', t', hr, hj, hsub⟩ := hq3; exact fin (some .ret) s' t' hj hsub hr
      | exit id => obtain ⟨s', t', hr, hj, hsub⟩ := hq3; exact fin (some (.exit id)) s' t' hj hsub hr
      | goto q => obtain ⟨s', t', hr, hj, hsub⟩ := hq3; exact fin (some (.goto q)) s' t' hj hsub hr
      | panic c => exact hq3.elim
      | outgrown => exact hq3.elim
    | _ => exact hq1.elim
  -- the one call
  have hT0 : T' s₀ t₀ = LP .ready none :: T s₀ t₀ := by rw [hT']; simp [hJ]
  have hI1p : Inv I1 ((Own ++ T' s₀ t₀) ++ (.db o2 :: (B ++ F))) w1 := by
    refine hI1.perm ?_
    rw [hT0, hLP]
    have h1 : (A ++ F).Perm (Own ++ (T s₀ t₀ ++ (B ++ F))) := by
      refine (p.append_right F).trans (List.Perm.of_eq ?_)
      simp
    refine ((h1.cons _).cons _).trans ?_;exact (List.Perm.of_eq (by simp)).trans (kC _ _ Own (T s₀ t₀) (B ++ F)).symm
  have hrl : RelL I1 w1 (fs ++ [.yl o1] ++ cs) (xs ++ [Value.func (.yield l) #[] #[]] ++ ys) :=
    ((hxs.mono E1).append (dH (.yl o1 l ho1) dZ)).append (hys.mono E1)
  refine (AO.call.callsIn_wide').2 ((hiter o1 T' hY _ I1 w1 _ hI1p hrl).mono fun en w2 ⟨I2, ae, A', E2, hI2, hre, av, s₁, t₁, A1, hae, hRE, hA'⟩ => ?_)
  have E12 := E1.trans E2
  subst hae
  cases en with
  | returned v =>
      have hA2 : A' = A1 ++ (LP (if (J s₁).isNone then .ready else .done) (J s₁) :: T s₁ t₁) := by rw [hA', hT']
      rw [hA2, hLP] at hI2
      have hI2p : Inv I2 (.lp o1 (if (J s₁).isNone then .ready else .done) (J s₁) fn N (fun t => ev e t) ps asg bd o2 :: (.db o2 :: (A1 ++ (T s₁ t₁ ++ B)) ++ F)) w2 := by
        refine hI2.perm ?_;exact (kC _ _ A1 (T s₁ t₁) (B ++ F)).trans (List.Perm.of_eq (by simp))
      obtain ⟨w3, hend, E3, hI3⟩ := lq (P := P) hI2p (E2.obj _ _ ho1) (by split <;> simp)
      have hS3 : RelS N I2 w3 ⟨e, .mark o2 :: ds, .db o2 :: (A1 ++ (T s₁ t₁ ++ B))⟩ { a with defers := [{ target := .collected b, args := #[] }] ++ a.defers } :=
        ⟨hS.size, ((hS1.mono E2).mono E3).env, .cons (.mark o2 b (E3.obj _ _ (E2.obj _ _ ho2))) ((hS1.mono E2).mono E3).ds⟩
      have hk := k o2 av s₁ t₁ A1 hRE
      refine ⟨_, w3, hend, ?_⟩
      cases hj : J s₁ with
      | none => rw [hj] at hk; exact ⟨I2, _, E12.trans E3, hI3, hS3, hk⟩
      | some c => rw [hj] at hk; exact wpIn_mono (hk F I2 w3 _ hI3 hS3) fun _ _ _ => da (E12.trans E3) fun _ _ h => h
  | panicked c => exact hre.elim
  | outgrown => exact hre.elim
theorem Inv.lose {I : Info} {A : List Chunk} {w : World} {c : Chunk} {b : Nat} (h : Inv I (c :: A) w) (hcb : c.blk I = some b) (he : I.ext b = some 0)
    (hnc : ∀ cs E fz, w.heap[b]? ≠ some (.cells cs E fz)) {w' : World} (hos : w'.os = w.os) (htape : w'.tape = w.tape) (hout : w'.output = w.output) (hsz : w'.heap.size = w.heap.size)
    (hne : ∀ b', b' ≠ b → w'.heap[b']? = w.heap[b']?) : Ext I w I w' ∧ Inv I A w' := by
  have X : Ext I w I w' := by
    refine ⟨hos, htape, hout, by omega, fun c hc => ?_, fun c j hj => ?_, fun _ _ h => h, fun _ _ h => h, fun _ _ h => h, fun c E hE => ?_⟩
    · have : c ≠ b := fun e => by rw [e, he] at hc; cases hc
      exact ⟨hne c this, hc⟩
    · have : c ≠ b := fun e => by have := hj 0 (by rw [e]; exact he); omega
      simp only [World.cell?, hne c this]
    · by_cases e : c = b
      · subst e; obtain ⟨d, fz, hd⟩ := hE; exact absurd hd (hnc _ _ _)
      · obtain ⟨d, fz, hd⟩ := hE; exact ⟨d, fz, (hne c e).trans hd⟩
  have hap := h.apart (c := c) (b := b) hcb
  refine ⟨X, (h.sub (List.sublist_cons_self ..)).keep X (fun d hd b' hb' => ?_) (fun b' hb' => h.fresh b' (by omega)) h.ids⟩
  have : b' ≠ b := fun e => hap d hd (by rw [← e]; exact hb')
  exact ⟨hne b' this, rfl⟩
inductive Unmark : List ADef → List Chunk → List Chunk → Prop where
  | nil (A : List Chunk) : Unmark [] A A
  | cons {o : Nat} {ds : List ADef} {A A1 B : List Chunk} (p : A.Perm (.db o :: A1)) (h : Unmark ds A1 B) : Unmark (.mark o :: ds) A B
theorem Unmark.sound {fn : Func} {R : Ending → World → Prop} {F : List Chunk} {e : Env} {u : FrameMode} (hu : u ≠ .run) : ∀ {ads : List ADef} {A B : List Chunk}, Unmark ads A B → ∀ (ds : List Deferred) (I : Info) (w : World) (a : Act), Inv I (A ++ F) w → RelS N I w ⟨e, ads, A⟩ a → a.defers = ds →
    (∀ w', Ext I w I w' → Inv I (B ++ F) w' → RelS N I w' ⟨e, [], B⟩ { a with defers := [] } → LeavesIn (cN none) 0 P fn a.tmps R [] u w') → LeavesInM (cN none) 0 P fn a.tmps R ds u w := by
  intro ads A B h
  induction h with
  | nil A =>
    intro ds I w a hI hS hd k
    have := dl hS.ds
    rw [hd] at this
    subst this
    have := k w (bI _ _) hI ⟨hS.size, hS.env, .nil⟩
    exact this
  | @cons o ads' A' A1 B' p h ih =>
    intro ds I w a hI hS hd k
    have hds := hS.ds
    rw [hd] at hds
    cases hds with
    | cons hm hds =>
      rename_i d ds'
      cases hm with
      | mark o b ho =>
        have hI1 : Inv I (.db o :: (A1 ++ F)) w := hI.perm (p.append_right F)
        obtain ⟨b', ho', he, hh⟩ := hI1.holds _ (List.mem_cons_self ..)
        rw [ho] at ho'; cases ho'
        obtain ⟨X, hI2⟩ := hI1.lose (w' := w.putObj b (.deferred none)) (b := b) ho he (fun _ _ _ e => by rw [hh] at e; cases e) rfl rfl rfl (by simp) (fun b' hb' => World.putObj_heap_other hb');refine ⟨hu, .inl ⟨b, w.putObj b (.deferred none), rfl, run_takeDeferred hh, ?_⟩⟩;exact ih ds' I _ { a with defers := ds' } hI2 ⟨hS.size, (hS.mono X).env, hds.mono X⟩ rfl (fun w' X' hI' hS' => k w' (X.trans X') hI' hS')
def RetPostM (P : Program) (fn : Func) (N : Nat) (R : AE → List Chunk → Prop) : dF
  | .normal, s | .ret, s => ∃ B, Unmark s.ds s.A B ∧ ∃ av A', ResV P fn N ⟨s.env, [], B⟩ av ∧ Sub A' B ∧ R (.ret av) A'
  | _, _ => False
theorem lJ {f : FuncId} {fn : Func} {c : Code} {args : List AV} {A : List Chunk} {R : AE → List Chunk → Prop} (hf : P.funcs[f]? = some fn) (hb : fn.body = some c) (hl : Nat.ble args.length fn.ntmps = true)
    (h : AW P none fn.ntmps c (RetPostM P fn fn.ntmps R) ⟨gB 0 args, [], A⟩) : ACalls P f args A R := fun F I w vs hI hv => by
  refine (callsIn_wide (n := 0)).1 (callsIn_of_wp_marks (F := Fence.wide) hf hb trivial ?_)
  refine wpIn_mono (h F I w _ hI (jw hv (ab hl))) fun e a w' hq => ?_
  obtain ⟨I', s', E, hI', hS', hq⟩ := hq
  have go : (∃ B, Unmark s'.ds s'.A B ∧ ∃ av A', ResV P fn fn.ntmps ⟨s'.env, [], B⟩ av ∧ Sub A' B ∧ R (.ret av) A') → LeavesInM (cN none) 0 P fn a.tmps (fun e w' => ∃ I' ae A', Ext I w I' w' ∧ Inv I' (A' ++ F) w' ∧ kY I' w' ae e ∧ R ae A') a.defers .returning w' := by
    rintro ⟨B, hu, av, A', hres, hsub, hR⟩
    refine Unmark.sound (N := fn.ntmps) (e := s'.env) (F := F) (by simp) hu a.defers I' w' a hI' hS' rfl fun w2 X hI2 hS2 => ?_
    obtain ⟨v, hrun, hv⟩ := hres F I' w2 { a with defers := [] } hI2 hS2;exact ⟨v, hrun, I', .ret av, A', E.trans X, hsub.inv hI2, hv, hR⟩
  cases e with
  | normal => exact go hq
  | ret => exact go hq
  | panic c => exact hq.elim
  | exit id => exact hq.elim
  | goto l => exact hq.elim
  | outgrown => exact hq.elim
def mu {σ τ : Type} (T : σ → τ → List Chunk) (J : σ → Option Code) (rv : σ × Bool) : dF
  | .normal, s => rv.2 = true ∧ J rv.1 = none ∧ ∃ t', Sub (T rv.1 t') s.A
  | .ret, s => rv.2 = false ∧ J rv.1 = some .ret ∧ ∃ t', Sub (T rv.1 t') s.A
  | .exit id, s => rv.2 = false ∧ J rv.1 = some (.exit id) ∧ ∃ t', Sub (T rv.1 t') s.A
  | .goto l, s => rv.2 = false ∧ J rv.1 = some (.goto l) ∧ ∃ t', Sub (T rv.1 t') s.A
  | _, _ => False
theorem AW.rangeK {α σ τ : Type} {gf : Operand} {ps : Array Tmp} {asg bd : Code} {fs cs : List AV} {e : Env} {ds : List ADef} {A Own C B Own1 : List Chunk}
    (enc : α → List AV) (T : σ → τ → List Chunk) (J : σ → Option Code) (k : σ → α → Option (σ × Bool)) (s₀ : σ) (t₀ : τ) (s₁ : σ) (io it : List Nat) {f : FuncId}
    (hg : opv e gf = .fn (.func f) fs cs) (hf : ∀ args w, (callFunc f args).run P w = .ok (.enter f args) w) (hps : ∀ x, (enc x).length = ps.size) (hN : ∀ p ∈ ps.toList, p < N)
    (p1 : fP A io = some (Own, C)) (p2 : fP C it = some (T s₀ t₀, B)) (hJ : J s₀ = none)
    (hiter : ∀ (o : Nat) (T' : σ → τ → List Chunk), (∀ s t x rv, k s x = some rv → fS P o (enc x) (T' s t) fun ae A' => ∃ t', ae = .ret (.v (.bool rv.2)) ∧ A' = T' rv.1 t') →
      ACalls P f (fs ++ [.yl o] ++ cs) (Own ++ T' s₀ t₀) fun ae A' => ∃ t₁, ae = .ret (.tup []) ∧ A' = Own1 ++ T' s₁ t₁)
    (hround : ∀ l s t x rv, k s x = some rv → J s = none ∧ AW P (some l) N asg (qn (AW P (some l) N bd (mu T J rv))) ⟨kh (ps.toList.zip (enc x)) e, [], T s t⟩)
    (kk : ∀ o2 t₁, match J s₁ with
      | none => Q .normal ⟨e, .mark o2 :: ds, .db o2 :: (Own1 ++ (T s₁ t₁ ++ B))⟩
      | some c => AW P none N c Q ⟨e, .mark o2 :: ds, .db o2 :: (Own1 ++ (T s₁ t₁ ++ B))⟩) :
    AW P none N (.rangeFunc gf ps asg bd) Q ⟨e, ds, A⟩ := by
  have hp : A.Perm (Own ++ (T s₀ t₀ ++ B)) := (cw io _ _ _ p1).trans ((cw it _ _ _ p2).append_left Own)
  refine AW.rangeFunc enc Own B T J (fun s x => ∃ rv, k s x = some rv) (fun s x ae s' => ∃ rv, k s x = some rv ∧ s' = rv.1 ∧ ae = .ret (.v (.bool rv.2))) (fun v s A1 => s = s₁ ∧ A1 = Own1) s₀ t₀ hg hf hps hN hp hJ ?_ ?_ ?_
  · rintro l s t x ⟨rv, hk⟩
    obtain ⟨h1, h2⟩ := hround l s t x rv hk
    have hpost : ∀ ex s1, mu T J rv ex s1 → nQ T J (fun ae s' => ∃ rv, k s x = some rv ∧ s' = rv.1 ∧ ae = .ret (.v (.bool rv.2))) ex s1 := by
      intro ex s1 hq
      cases ex with
      | normal => obtain ⟨g1, g2, t', g3⟩ := hq; exact ⟨rv.1, t', ⟨rv, hk, rfl, by rw [g1]⟩, g2, g3⟩
      | ret => obtain ⟨g1, g2, t', g3⟩ := hq; exact ⟨rv.1, t', ⟨rv, hk, rfl, by rw [g1]⟩, g2, g3⟩
      | exit id => obtain ⟨g1, g2, t', g3⟩ := hq; exact ⟨rv.1, t', ⟨rv, hk, rfl, by rw [g1]⟩, g2, g3⟩
      | goto q => obtain ⟨g1, g2, t', g3⟩ := hq; exact ⟨rv.1, t', ⟨rv, hk, rfl, by rw [g1]⟩, g2, g3⟩
      | panic c => exact hq.elim
      | outgrown => exact hq.elim
    refine ⟨h1, h2.mono fun ex s1 hq => ?_⟩
    cases ex with
    | normal => exact AW.mono hq hpost
    | _ => exact hq
  · intro o T' hY
    refine (hiter o T' fun s t x rv hk => ?_).mono fun ae A' ⟨t₁, h1, h2⟩ => ⟨.tup [], s₁, t₁, Own1, h1, ⟨rfl, rfl⟩, h2⟩
    intro F I w vs l hI ho hv;obtain ⟨fn, tmps, asg', bd', hy, hR⟩ := hY s t x ⟨rv, hk⟩ F I w vs l hI ho hv;refine ⟨fn, tmps, asg', bd', hy, hR.mono fun en w' ⟨I', ae, A', E, hI', hre, s', t', ⟨rv', hk', hs, hae⟩, hA⟩ => ?_⟩
    rw [hk] at hk'
    cases hk'
    subst hs;exact ⟨I', ae, A', E, hI', hre, t', hae, hA⟩
  · rintro o2 v s t A1 ⟨rfl, rfl⟩
    exact kk o2 t
theorem AO.yieldT {σ τ : Type} {T : σ → τ → List Chunk} {s' : σ} {b : Bool} {rest : List Nat} {d : Nat} {x : Operand} {o : Nat} {args : Array Operand} {argTypes : Array TypeId} {Ty : TypeId} {pos : String} {after : Array Edge} {g : Option (Nat × Bool)} {e : Env} {ds : List ADef} {A : List Chunk} {avs : List AV}
    (m : Nat) (hd : Nat.blt d N = true) (hx : opv e x = .yl o) (ha : args.toList.map (opv e) = avs) (h : fS P o avs (A.drop m) fun ae A' => ∃ t', ae = .ret (.v (.bool b)) ∧ A' = T s' t')
    (k : ∀ t', AR P none N ops Q rest ⟨(d, .v (.bool b)) :: e, ds, A.take m ++ T s' t'⟩) :
    AO P none N ops Q rest ⟨some d, .call ⟨.value x, args, argTypes⟩, Ty, pos, after, g⟩ ⟨e, ds, A⟩ :=
  AO.yield (A.take m) (A.drop m) hd hx ha (List.take_append_drop m A).symm h (fun av T' ⟨t', h1, h2⟩ => by cases h1; subst h2; exact k t') (fun c T' ⟨t', h1, _⟩ => by cases h1)
theorem WK.atT {e l : Env} {ds : List ADef} {A B C : List Chunk} (m : Nat) (is : List Nat) (h : Env.le e l) (p : fP (A.take m) is = some (B, C)) : WK N ⟨e, ds, A⟩ ⟨l, ds, B ++ A.drop m⟩ := fun F I w a hI hS =>
  ⟨I, bI _ _, by
    have hp := cw is _ _ _ p
    have h0 : A = A.take m ++ A.drop m := (List.take_append_drop m A).symm
    have h1 : (A ++ F).Perm ((B ++ A.drop m) ++ (C ++ F)) := by
      have h2 : (A.take m ++ A.drop m).Perm (B ++ A.drop m ++ C) := by
        refine (hp.append_right (A.drop m)).trans ?_
        rw [List.append_assoc, List.append_assoc]
        exact List.Perm.append_left B List.perm_append_comm
      rw [← h0] at h2
      have := h2.append_right F
      simpa using this
    have h3 := hI.perm h1
    exact h3.sub (List.Sublist.append_left (List.sublist_append_right C F) _), ⟨hS.size, fun t => (h.ev t).rel (hS.env t), hS.ds⟩⟩
theorem Sub.atT {A B C : List Chunk} (m : Nat) (is : List Nat) (p : fP (A.take m) is = some (B, C)) : Sub (B ++ A.drop m) A := by
  have hp := cw is _ _ _ p
  have h2 : (B ++ A.drop m ++ C).Perm (A.take m ++ A.drop m) := by
    refine List.Perm.symm ((hp.append_right (A.drop m)).trans ?_)
    rw [List.append_assoc, List.append_assoc]
    exact List.Perm.append_left B List.perm_append_comm
  rw [List.take_append_drop] at h2
  obtain ⟨D, h1, h2⟩ := List.exists_perm_sublist (List.sublist_append_left (B ++ A.drop m) C) h2;exact ⟨D, h1, h2⟩
theorem Unmark.at {o : Nat} {ds : List ADef} {A B : List Chunk} (i : Nat) (h : A[i]? = some (.db o)) (k : Unmark ds (A.eraseIdx i) B) : Unmark (.mark o :: ds) A B := .cons (jG A i _ h) k
end
end Go.Av
namespace Go.Av
open Go.RowKit Go.Pv
section
variable {P : Program} {I : Info} {w w' : World} {A F : List Chunk}
theorem mL {l : List UInt8} {xs : List Value} (h : RelL I w (Enc.byte.fl l) xs) (i : Nat) (hi : i < l.length) : xs.getD i undef = .int .u8 ((Go.Lib.numsL l).getD i 0) := by
  rw [eu] at h
  have h1 := h.2 i (by simpa using hi)
  simp only [List.getElem_map] at h1
  have := bS h1
  rw [this]
  simp [Go.Lib.numsL, List.getD, hi]
theorem eb {l : List UInt8} {t : Option Nat} {v : Value} (h : Rel I w (slE Enc.byte l t) v) : ∃ a cap, v = .slice a l.length cap ∧ l.length ≤ cap ∧ Go.Lib.BytesIn w a l.length (Go.Lib.numsL l) ∧
    (l ≠ [] → ∃ b o, a = some ⟨b, o, none⟩ ∧ ∀ i, i < l.length → w.cell? ⟨b, o + i, none⟩ = some (.int .u8 ((Go.Lib.numsL l).getD i 0))) := by
  obtain ⟨a, cap, xs, e1, hcap, hrl, hor⟩ := hX h
  have hfl : (Enc.byte.fl l).length = l.length := by rw [eu]; simp
  have hc : l ≠ [] → ∃ b o, a = some ⟨b, o, none⟩ ∧ ∀ i, i < l.length → w.cell? ⟨b, o + i, none⟩ = some (.int .u8 ((Go.Lib.numsL l).getD i 0)) := by
    intro hne
    rcases hor with h0 | ⟨b, o, ha, _, hc⟩
    · exact absurd (List.eq_nil_of_length_eq_zero h0) hne
    · exact ⟨b, o, ha, fun i hi => by rw [hc i (by rw [hfl]; exact hi), mL hrl i hi]⟩
  refine ⟨a, cap, e1, hcap, ?_, hc⟩
  by_cases hne : l = []
  · subst hne; exact fun h => absurd h (Nat.lt_irrefl 0)
  · exact fun _ => hc hne
theorem Inv.new_tok (hI : Inv I A w) (hb : Below w.heap.size w w') {g n c : Nat} {arr : List Value} {E : TypeId} {fz : Nat × Nat} (hg : w.heap.size ≤ g) (hh : w'.heap[g]? = some (.cells arr.toArray E fz)) (hf : fz.1 = fz.2 ∨ arr.length ≤ fz.1) (hc : arr.length = c) (hn : n ≤ c) :
    ∃ t, Ext I w (I.putTok t g n c) w' ∧ Inv (I.putTok t g n c) (.tok t E :: A) w' := by
  obtain ⟨t, ht⟩ := hI.fresh_tok;obtain ⟨X0, hI'⟩ := Inv.below hI hb
  have hgf : I.ext g = some 0 := hI.fresh g hg
  have X : Ext I w (I.putTok t g n c) w' := by
    refine ⟨X0.os, X0.tape, X0.out, X0.size, fun b' hb' => ?_, fun b' j hj => ?_, fun b' k hk => ?_, fun o' b' h => h, fun s y hy => ?_, X0.elem⟩
    · have hb2 : b' ≠ g := fun e => by rw [e, hgf] at hb'; cases hb'
      exact ⟨(X0.blk b' hb').1, by simp only [Info.putTok]; rw [if_neg hb2]; exact hb'⟩
    · exact X0.cell b' j hj
    · intro k' hk'
      simp only [Info.putTok] at hk'
      split at hk'
      · rename_i e; subst e; cases hk'; have := hk 0 hgf; omega
      · exact hk k' hk'
    · simp only [Info.putTok]; rw [if_neg (fun e => by rw [e, ht] at hy; cases hy)]; exact hy
  have hlt : ∀ c' ∈ A, ∀ b, c'.blk I = some b → b ≠ g := fun c' hc' b hb' e => by
    have := (hI.holds c' hc').blk_lt hb'; omega
  have X2 : Ext I w' (I.putTok t g n c) w' := by
    refine ⟨rfl, rfl, rfl, Nat.le_refl _, fun b' hb' => ?_, fun b' j hj => rfl, X.ext, fun o' b' h => h, X.tok, fun _ _ h => h⟩
    have hb2 : b' ≠ g := fun e => by rw [e, hgf] at hb'; cases hb'
    exact ⟨rfl, by simp only [Info.putTok]; rw [if_neg hb2]; exact hb'⟩
  have K : Inv (I.putTok t g n c) A w' := by
    refine hI'.keep X2 (fun c' hc' b hb' => ⟨rfl, by simp only [Info.putTok]; rw [if_neg (hlt c' hc' b hb')]⟩) (fun b hb' => ?_) ?_
    · have hb2 : b ≠ g := fun e => by
        have := (Array.getElem?_eq_some_iff.1 hh).1; omega
      simp only [Info.putTok]; rw [if_neg hb2]; exact hI'.fresh b hb'
    · obtain ⟨k, hk⟩ := hI.ids
      refine ⟨max k (t + 1), fun x hx => ?_⟩
      have := hk x (by omega)
      refine ⟨this.1, ?_⟩
      simp only [Info.putTok]; rw [if_neg (by omega)]; exact this.2
  refine ⟨t, X, K.cons ⟨some g, n, c, by simp [Info.putTok], fun e => (by cases e), fun b e => ?_⟩ ?_⟩
  · cases e
    exact ⟨by simp [Info.putTok], hn, arr, ⟨E, fz, hh, by rw [hc] at hf ⊢; exact hf⟩, hc, arr.toArray, fz, hh⟩
  · intro b hb' d hd e
    simp only [Chunk.blk, Info.putTok, if_true, Option.bind_some, Option.some.injEq] at hb'
    have := ((hI'.holds d hd).keep X2 (fun b' hb'' => ⟨rfl, by simp only [Info.putTok]; rw [if_neg (hlt d hd b' hb'')]⟩)).2
    rw [this] at e
    exact hlt d hd b e hb'.symm
variable {e : Env} {d : Option Nat} {T : TypeId} {pos : String} {after : Array Edge} {g : Option (Nat × Bool)} {x y : Operand}
end
section
variable {P : Program} {f : FuncId}
end
section
variable {P : Program}
theorem pO {I : Info} {A : List Chunk} {w w' : World} {l : List UInt8} {El : Nat} {v : Value} (hI : Inv I A w) (hb : Below w.heap.size w w') (h : w'.ownsRow w.heap.size El 1 v l.length ((Go.Lib.numsL l).map (Value.int .u8))) :
    ∃ I', Ext I w I' w' ∧ Inv I' A w' ∧ Rel I' w' (slE Enc.byte l none) v := by
  obtain ⟨h1, h2⟩ := h
  rcases h2 with ⟨rfl, h2⟩ | ⟨g, cap, cur, hv, hg, hh, hn, hmax, hcs, htk⟩
  · have : l = [] := List.eq_nil_of_length_eq_zero h2
    subst this;obtain ⟨X, hI'⟩ := Inv.below hI hb;exact ⟨I, X, hI', .slz _ _ _⟩
  · subst hv
    obtain ⟨t, X, hI'⟩ := hI.new_tok (n := l.length) (c := cap) (arr := cur.toList) hb hg (by simpa using hh) (.inl rfl) (by simpa using hcs) hn;refine ⟨_, X, hI'.sub (List.sublist_cons_self ..), ?_⟩
    have hfl : (Enc.byte.fl l).length = l.length := by rw [eu]; simp
    unfold slE
    refine .sl 1 _ none g 0 _ _ (fun j => ((Go.Lib.numsL l).map (Value.int .u8)).getD j undef) (by decide) (by rw [hfl, Nat.mul_one]) hn (fun m hm => ?_) (fun j hj => ?_) (fun j hj => ?_) (fun _ h => by cases h)
    · simp only [Info.putTok, if_true, Option.some.injEq] at hm
      rw [hfl]; omega
    · rw [hfl] at hj
      rw [Nat.zero_add]
      have : cur.toList[j]? = ((Go.Lib.numsL l).map (Value.int .u8))[j]? := by
        rw [← htk, List.getElem?_take, if_pos (by omega)]
      simp only [World.cell?, hh, Option.isSome_none, Bool.false_eq_true, if_false]
      rw [← Array.getElem?_toList, this]
      simp [List.getD, hj, Go.Lib.numsL_length]
    · have hj' : j < l.length := by rw [hfl] at hj; exact hj
      have h3 : (Enc.byte.fl l)[j] = u8 l[j] := by simp only [eu, List.getElem_map]
      rw [h3]
      have h4 : ((Go.Lib.numsL l).map (Value.int .u8)).getD j undef = .int .u8 (l[j].toNat : Int) := by simp [List.getD, hj', Go.Lib.numsL]
      rw [h4]
      exact .v _
variable {e : Env} {d : Option Nat} {T : TypeId} {pos : String} {after : Array Edge} {g : Option (Nat × Bool)} {x y : Operand} {A : List Chunk}
end
end Go.Av
namespace Go.Av
open Go.RowKit Go.Pv
section
variable {P : Program} {I : Info} {w : World} {e : Env} {d : Option Nat} {T : TypeId} {pos : String} {after : Array Edge} {g : Option (Nat × Bool)} {x y : Operand} {A : List Chunk}
theorem lv {p q : Nat → Option (Nat × Nat)} : ∀ (parts : List (Nat × Value)) (cs : Array Value), (∀ r ∈ parts, p r.1 = q r.1) → Instr.fill p cs parts = Instr.fill q cs parts
  | [], _, _ => rfl
  | (i, v) :: rest, cs, h => by
    have h0 := h (i, v) (List.mem_cons_self ..)
    simp only at h0
    have ih := fun cs => lv (p := p) (q := q) rest cs (fun r hr => h r (List.mem_cons_of_mem _ hr))
    simp only [Instr.fill, h0]
    cases q i with
    | none => rfl
    | some r => simp only [ih]
theorem nZ {El bytes k n : Nat} {parts : Array (Nat × Operand)} {zs : List Value} {cs : List AV} {T2 : TypeId} {ρ : Operand → Value} (hT : P.underlying T = some (.slice El)) (hE : dj P El = some (k, bytes)) (hz : zeroCells P El = some zs) (hn : Nat.ble (n * k) 16777216 = true)
    (hok : lP e parts.toList = true) (hi : (parts.toList.all fun p => Nat.blt p.1 n) = true) (hf : lL ((List.range n).map fun i => (i * k, k)) ((hU zs (n * k)).map AV.v) (parts.toList.map fun p => (p.1, opv e p.2)) = some cs) (hρ : ∀ x, Rel I w (opv e x) (ρ x)) :
    ∃ ys : List Value, (execOp ρ ⟨d, .buildSlice T n parts, T2, pos, after, g⟩).run P w = .ok (.value (.slice (some ⟨w.heap.size, 0, none⟩) n n)) (w.alloc (.cells ys.toArray El)) ∧ RelL I w cs ys := by
  obtain ⟨i, z, hin, hzi, hzs, hsz, hby⟩ := fI hE
  have hcz : br P El = some k := by simp only [br, hin, Option.map_some, hsz]
  have hzz : zs = z.cells.toList := by
    simp only [zeroCells, hin, Option.bind_some, hzi, Option.map_some, Option.some.injEq] at hz
    exact hz.symm
  have hti : (typeInfo El).run P w = .ok i w := by simp [typeInfo, program, hin, Sem.run]
  have hzv : (zeroValue El).run P w = .ok z w := by simp only [zeroValue, Sem.run_bind, hti, Result.andThen_ok, hzi, Sem.run_pure]
  obtain ⟨ys, hy, hyr⟩ := kJ (I := I) (w := w) ((List.range n).map fun i => (i * k, k)) (parts.toList.map fun p => (p.1, opv e p.2)) (parts.toList.map fun p => (p.1, ρ p.2)) _ _ cs (by simp) (fun j hj => by
    have hj' : j < parts.toList.length := by simpa using hj
    simp only [List.getElem_map, List.map_map, List.getD, List.getElem?_map, au hj', Option.map_some, Option.getD_some, Function.comp]
    refine il (hρ _) ?_
    have h := List.all_eq_true.1 hok _ (List.getElem_mem hj')
    cases hc : bw (opv e parts.toList[j].2) with
    | true => exact .inl rfl
    | false => rw [hc, Bool.false_or] at h; exact .inr (oq h)) (gI (hU zs (n * k))) hf
  refine ⟨ys, ?_, hyr⟩
  have hpm : (parts.map fun (i, x) => (i, ρ x)).toList = parts.toList.map fun p => (p.1, ρ p.2) := by simp
  have hfill : Instr.fill (fun i => some (i * k, k)) (hU zs (n * k)).toArray (parts.map fun (i, x) => (i, ρ x)).toList = some ys.toArray := by
    rw [hpm, ← hy]
    refine lv _ _ fun r hr => ?_
    obtain ⟨p, hp, rfl⟩ := List.mem_map.1 hr
    have hlt : p.1 < n := by
      have := List.all_eq_true.1 hi p hp
      exact ab this
    simp [hlt]
  have hle := ab hn
  have hz0 : (if n * k = 0 then (pure #[] : Sem (Array Value)) else do pure (← zeroValue El).cells).run P w = .ok (if n * k = 0 then #[] else z.cells) w := by
    split
    · rfl
    · simp only [Sem.run_bind, hzv, Result.andThen_ok, Sem.run_pure]
  have hrow : (Array.range (n * k)).map ((if n * k = 0 then #[] else z.cells)[· % (if n * k = 0 then #[] else z.cells).size]!) = (hU zs (n * k)).toArray := by
    by_cases h0 : n * k = 0
    · simp [h0, hU]
    · simp only [if_neg h0]
      have hk0 : 0 < z.cells.size := by
        rw [hzs]
        rcases Nat.eq_zero_or_pos k with h | h
        · rw [h, Nat.mul_zero] at h0; exact absurd rfl h0
        · exact h
      apply Array.ext'
      simp only [Array.toList_map, Array.toList_range, hU, List.toList_toArray, hzz, Array.length_toList]
      refine List.map_congr_left fun j _ => ?_
      have hj : j % z.cells.size < z.cells.size := Nat.mod_lt _ hk0
      simp [List.getD, hj]
  simp only [execOp, Instr.buildSlice, Sem.run_bind, run_underlying hT, Result.andThen_ok, bu hcz, Sem.run_pure]
  rw [if_neg (by omega)]
  have hfill2 : Instr.fill (fun i => some (i * k, k)) (hU zs (n * k)).toArray (parts.map fun x => (x.1, ρ x.2)).toList = some ys.toArray := hfill
  by_cases h0 : n * k = 0
  · rw [if_pos h0] at hrow
    rw [if_pos h0]
    simp only [Sem.run_bind, Sem.run_pure, Result.andThen_ok]
    rw [hrow]
    simp only [hfill2, newRow, Sem.run_bind, run_newObj_alloc, Result.andThen_ok, Sem.run_pure]
  · rw [if_neg h0] at hrow
    rw [if_neg h0]
    simp only [Sem.run_bind, hzv, Sem.run_pure, Result.andThen_ok]
    rw [hrow]
    simp only [hfill2, newRow, Sem.run_bind, run_newObj_alloc, Result.andThen_ok, Sem.run_pure]
theorem nW {α : Type} {E : Enc α} {l : List α} {El bytes n : Nat} {parts : Array (Nat × Operand)} {zs : List Value} {T2 : TypeId} (hT : P.underlying T = some (.slice El)) (hE : dj P El = some (E.k, bytes)) (hz : zeroCells P El = some zs) (hn : Nat.ble (n * E.k) 16777216 = true)
    (hok : lP e parts.toList = true) (hi : (parts.toList.all fun p => Nat.blt p.1 n) = true) (hl : l.length = n) (hf : lL ((List.range n).map fun i => (i * E.k, E.k)) ((hU zs (n * E.k)).map AV.v) (parts.toList.map fun p => (p.1, opv e p.2)) = some (E.fl l)) :
    OpR P ⟨d, .buildSlice T n parts, T2, pos, after, g⟩ e A (slE E l none) A := fun F I w ρ hI hρ => by
  obtain ⟨ys, hrun, hrl⟩ := nZ (d := d) (T2 := T2) (pos := pos) (after := after) (g := g) hT hE hz hn hok hi hf hρ
  have X := hI.new_still (.cells ys.toArray El)
  refine ⟨_, .slice (some ⟨w.heap.size, 0, none⟩) n n, _, _, hrun, .inl rfl, X, hI.alloc_still _, ?_⟩
  unfold slE
  refine .sl E.k (E.fl l) none _ 0 _ _ (fun j => ys.getD j undef) E.pos (by rw [E.fl_length, hl]) (Nat.le_refl _) ?_ ?_ (hrl.mono X).2 (fun t h => by cases h)
  · intro m hm; simp [Info.still] at hm
  · intro j hj
    have hj' : j < ys.length := by rw [hrl.1]; exact hj
    rw [Nat.zero_add]
    simp only [World.cell?, bW]
    simp only [Option.isSome_none, Bool.false_eq_true, if_false, List.getElem?_toArray, List.getD, au hj', Option.getD_some]
end
theorem kz {P : Program} {f : FuncId} {vs1 bs : List AV} {A : List Chunk} {R : AE → List Chunk → Prop} (h : WvL vs1 bs) (g : ACalls P f bs A R) : ACalls P f vs1 A R := fun F I w vs hI hv => g F I w vs hI (h.rel hv)
end Go.Av
namespace Go.Av
open Go.RowKit
theorem tabIs_of {P : Program} {I : Info} {A : List Chunk} {w : World} (hI : Inv I A w) {name : String} {g : Nat} {k : IntKind} {zs : List Int} (hn : P.globalNamed name = some g) (hG : G g = some [.tb (zs.map fun z => Value.int k z)]) : Go.Lib.TabIs P w name k zs := by
  have h : Rel I w (.tb _) _ := hI.glob g _ hG
  cases h with
  | tb _ _ E fz hb hst =>
    unfold Go.Lib.TabIs World.var?
    rw [hn]
    simp [hb]
theorem rel_tab {P : Program} {W : World} {name : String} {g : Nat} {k : IntKind} {zs : List Int} (hn : P.globalNamed name = some g) (h : Go.Lib.TabIs P W name k zs) : Rel (Info.start W) W (gv [.tb (zs.map fun z => Value.int k z)]) (.pointer (some ⟨g, 0, none⟩)) := by
  unfold Go.Lib.TabIs World.var? at h
  rw [hn] at h
  simp only [Option.bind_some] at h
  split at h
  · rename_i cs E fz hb
    cases h
    have hlt := (Array.getElem?_eq_some_iff.1 hb).1
    refine .tb _ g E fz hb ?_
    simp only [Info.start]
    rw [if_pos hlt]
  · cases h
end Go.Av
namespace Go.Av
open Go.RowKit
section
variable {F : Fence} {n : Nat} {P : Program}
def RoundEnd (P : Program) (l : Nat) (R : Ending → World → Prop) : Exit → Act → World → Prop
  | .panic c, a, w => a.defers = [] ∧ R (.panicked c) w
  | e, a, w => roundPost P l R e a w
theorem oS {l : Nat} {f : FuncId} {tmps : Array Value} {asg bd : Code} {w : World} {R : Ending → World → Prop} (hF : F.fn f) (hv : ∃ fn, P.funcs[f]? = some fn)
    (h : asg.wpIn (F.inRound l) n P (Exit.then (fun a₁ w₁ => ∃ w₂, (Instr.beginRound l).run P w₁ = .ok () w₂ ∧ bd.wpIn (F.inRound l) n P (RoundEnd P l R) a₁ w₂) (fun _ _ _ => False)) { tmps := tmps, defers := [] } w) :
    RoundIn F n P l f tmps asg bd w R := by
  refine ⟨hF, fun c cs hr => ?_⟩
  -- the frame
  obtain ⟨b, hb⟩ : ∃ b : Frame, b = { (default : Frame) with fn := f, kind := .normal, roundOf := some l } := ⟨_, rfl⟩
  have hround : b.roundOf = (F.inRound l).round := by rw [hb]; rfl
  have hfn : (F.inRound l).fn b.fn := by rw [hb]; exact hF
  have hroom : (F.inRound l).room ((c :: cs).length + 1 + n) := hr
  have hstart : Frame.round l f tmps asg bd .normal = b.atR { tmps := tmps, defers := [] } [.code asg, .beginRound, .code bd] := by rw [hb]; simp [Frame.round, Frame.atR]
  have hbr : b.roundOf = some l := by rw [hb]
  have hbk : b.kind = .normal := by rw [hb]
  rw [hstart]
  obtain ⟨e, a₁, w₁, hq, harr⟩ := h b [.beginRound, .code bd] (c :: cs) hround hfn hroom
  cases e with
  | normal =>
    obtain ⟨w₂, hbeg, hbody⟩ := hq
    have s0 := StepsIn.trans harr (.one (fenced_calm (fr := b.atR a₁ [.beginRound, .code bd]) hfn hroom rfl) (stepR_beginRound hbr hbeg))
    obtain ⟨e2, a₂, w₃, hq2, harr2⟩ := hbody b [] (c :: cs) hround hfn hroom
    cases e2 with
    | normal =>
      obtain ⟨v, w₄, hend, hR⟩ := hq2;exact ⟨.returned v, w₄, hR, s0.trans (StepsIn.trans harr2 (.one (fenced_calm (fr := b.atR a₂ []) hfn hroom rfl) (stepR_round_end hbr hbk hend)))⟩
    | ret =>
      obtain ⟨v, w₄, hend, hR⟩ := hq2;obtain ⟨k₁, hs⟩ := harr2.2 (by rw [hbr]; rfl);exact ⟨.returned v, w₄, hR, s0.trans (StepsIn.trans hs (.one (fenced_calm (fr := b.atR a₂ (.code .ret :: k₁)) hfn hroom rfl) (stepR_round_ret hbr hbk hend)))⟩
    | exit id =>
      obtain ⟨v, w₄, hend, hR⟩ := hq2;obtain ⟨k₁, hk, hs⟩ := harr2.2 (by rw [hbr]; rfl) rfl;exact ⟨.returned v, w₄, hR, s0.trans (StepsIn.trans hs (.one (fenced_calm (fr := b.atR a₂ (.code (.exit id) :: k₁)) hfn hroom rfl) (stepR_round_exit hbr hbk hk hend)))⟩
    | goto t =>
      obtain ⟨v, w₄, hend, hR⟩ := hq2;obtain ⟨k₁, hk, hs⟩ := harr2.2 (by rw [hbr]; rfl) rfl;exact ⟨.returned v, w₄, hR, s0.trans (StepsIn.trans hs (.one (fenced_calm (fr := b.atR a₂ (.code (.goto t) :: k₁)) hfn hroom rfl) (stepR_round_goto hbr hbk hk hend)))⟩
    | panic chain =>
      obtain ⟨hd, hR⟩ := hq2;obtain ⟨todo, hs⟩ := harr2
      have hl : Frame.leaving P ({ b.atR a₂ todo with mode := .panicking chain } : Frame) w₃ (.panicked chain) := ⟨rfl, hd, by rw [hb]; exact hv⟩
      exact ⟨.panicked chain, w₃, hR, s0.trans (StepsIn.trans hs (.one (fenced_leaving hfn hroom hl) (step_leave_panicked hl)))⟩
    | outgrown => exact hq2.elim
  | exit id => exact hq.elim
  | goto t => exact hq.elim
  | ret => exact hq.elim
  | panic chain => exact hq.elim
  | outgrown => exact hq.elim
def wpV (c : Code) (F : Fence) (n : Nat) (P : Program) (Q : Exit → Act → World → Prop) (a : Act) (w : World) : Prop :=
  ∀ (b : Frame) (k : List Item) (cs : List Frame), b.roundOf = F.round → F.fn b.fn → F.room (cs.length + 1 + n) → (∃ fn, P.funcs[b.fn]? = some fn) →
    ∃ e a' w', Q e a' w' ∧ ArrivesIn (Machine.fenced P F) P (lone (b.atR a (.code c :: k)) cs w) b k cs e a' w'
theorem wpV_of {c : Code} {Q : Exit → Act → World → Prop} {a : Act} {w : World} (h : c.wpIn F n P Q a w) : wpV c F n P Q a w := fun b k cs h1 h2 h3 _ => h b k cs h1 h2 h3
theorem wpV_seq {x y : Code} {Q : Exit → Act → World → Prop} {a : Act} {w : World} (h : wpV x F n P (Exit.then (fun a w => wpV y F n P Q a w) Q) a w) : wpV (.seq x y) F n P Q a w := by
  intro b k cs hro hb hr hv
  have h0 : (lone (b.atR a (.code (.seq x y) :: k)) cs w).fenced P F := fenced_calm hb hr rfl
  obtain ⟨e, a₁, w₁, hq, harr⟩ := h b (.code y :: k) cs hro hb hr hv
  have pass : e ≠ .normal → ArrivesIn (Machine.fenced P F) P (lone (b.atR a (.code (.seq x y) :: k)) cs w) b k cs e a₁ w₁ := fun he =>
    .of_steps (.one h0 stepR_seq) (.pass (x := .code y) rfl (fun _ _ => .inl he) harr)
  cases e with
  | normal =>
    obtain ⟨e₂, a₂, w₂, hq₂, harr₂⟩ := hq b k cs hro hb hr hv;exact ⟨e₂, a₂, w₂, hq₂, .of_steps (.head h0 stepR_seq harr) harr₂⟩
  | exit id => exact ⟨_, a₁, w₁, hq, pass (by simp)⟩
  | goto l => exact ⟨_, a₁, w₁, hq, pass (by simp)⟩
  | ret => exact ⟨_, a₁, w₁, hq, pass (by simp)⟩
  | panic ch => exact ⟨_, a₁, w₁, hq, pass (by simp)⟩
  | outgrown => exact ⟨_, a₁, w₁, hq, pass (by simp)⟩
theorem qF {id : Nat} {c : Code} {Q : Exit → Act → World → Prop} {a : Act} {w : World} (h : wpV c F n P (fun e a w => match e with | .exit _ => False | .goto _ => False | e => Q e a w) a w) : wpV (.block id c) F n P Q a w := by
  intro b k cs hro hb hr hv
  have h0 : (lone (b.atR a (.code (.block id c) :: k)) cs w).fenced P F := fenced_calm hb hr rfl
  obtain ⟨e, a₁, w₁, hq, harr⟩ := h b (.inBlock id :: k) cs hro hb hr hv
  cases e with
  | normal => exact ⟨.normal, a₁, w₁, hq, .head h0 stepR_block (StepsIn.trans harr (.one (fenced_calm hb hr rfl) stepR_inBlock))⟩
  | exit id => exact hq.elim
  | goto l => exact hq.elim
  | ret => exact ⟨_, a₁, w₁, hq, .of_steps (.one h0 stepR_block) harr⟩
  | panic ch => exact ⟨_, a₁, w₁, hq, .of_steps (.one h0 stepR_block) harr⟩
  | outgrown => exact ⟨_, a₁, w₁, hq, .of_steps (.one h0 stepR_block) harr⟩
theorem jm {c : Code} {Q Q' : Exit → Act → World → Prop} {a : Act} {w : World} (h : wpV c F n P Q a w) (hq : ∀ e a w, Q e a w → Q' e a w) : wpV c F n P Q' a w := fun b k cs h1 h2 h3 h4 =>
  let ⟨e, a', w', q, r⟩ := h b k cs h1 h2 h3 h4; ⟨e, a', w', hq _ _ _ q, r⟩
theorem qE {g : Operand} {ps : Array Tmp} {asg bd : Code} {Q : Exit → Act → World → Prop} {a : Act} {w : World}
    (h : ∀ fn, F.fn fn → (∃ fd, P.funcs[fn]? = some fd) → ∃ (l : Nat) (mark : List Deferred) (w₁ : World) (d : Deferred) (w₁' : World) (f : FuncId) (args : Array Value) (w₂ : World),
      (Instr.enterLoop fn a.tmps ps asg bd F.round).run P w = .ok (l, mark) w₁ ∧ (resolve a.eval (rangeCall g l) 0).run P w₁ = .ok d w₁' ∧ (∀ f', Target.leads P w₁' d.target d.args = some f' → F.fn f') ∧
      (invoke d.target d.args).run P w₁' = .ok (.enter f args) w₂ ∧ (F.depth.isSome = true → 1 ≤ n) ∧ CallsIn F (n - 1) P f args w₂ fun e w₃ => match e with
        | .returned _ => ∃ jump w₄, (Instr.endLoop l).run P w₃ = .ok jump w₄ ∧ (match jump with | none => Q .normal { a with defers := mark ++ a.defers } w₄ | some c => c.wpIn F n P Q { a with defers := mark ++ a.defers } w₄)
        | .panicked chain => Q (.panic chain) { a with defers := mark ++ a.defers } w₃
        | .outgrown => False) : wpV (.rangeFunc g ps asg bd) F n P Q a w := by
  intro b k cs hro hb hr hv;obtain ⟨l, mark, w₁, d, w₁', f, args, w₂, he, hres, hlead, hinv, hn, hF, hcall⟩ := h b.fn hb hv
  rw [← hro] at he
  obtain ⟨a2, ha2⟩ : ∃ a2 : Act, a2 = { a with defers := mark ++ a.defers } := ⟨_, rfl⟩
  have h0 : (lone (b.atR a (.code (.rangeFunc g ps asg bd) :: k)) cs w).fenced P F := by
    refine fenced_lone (.inl hb) (fun f' hf' => hlead f' ?_) (Fence.room_le hr (by omega))
    have hev := Frame.eval_atR b a (.code (.rangeFunc g ps asg bd) :: k)
    simp only [Frame.about, Frame.atR] at hf' hev
    simp only [he, hev, hres] at hf'
    exact hf'
  have enter := stepR_rangeFunc (P := P) (b := b) (a := a) (k := k) (cs := cs) (w := w) he hres hinv
  have room1 : F.room ((b.atR { a with defers := mark ++ a.defers } (.inRangeFunc l :: k) :: cs).length + 1 + (n - 1)) := Fence.room_enter hr hn
  obtain ⟨e, w₃, fr, hR, hst, hfn, hlv⟩ := hcall (b.atR { a with defers := mark ++ a.defers } (.inRangeFunc l :: k) :: cs) room1
  cases e with
  | outgrown => exact hR.elim
  | panicked chain =>
    have hl : (lone fr (b.atR { a with defers := mark ++ a.defers } (.inRangeFunc l :: k) :: cs) w₃).fenced P F := fenced_leaving (hfn ▸ hF) room1 hlv
    refine ⟨.panic chain, _, w₃, hR, .inRangeFunc l :: k, .head h0 enter (StepsIn.trans hst (.one hl ?_))⟩
    rw [← Frame.raise_atR]; exact step_leave_panicked hlv
  | returned v =>
    have hl : (lone fr (b.atR { a with defers := mark ++ a.defers } (.inRangeFunc l :: k) :: cs) w₃).fenced P F := fenced_leaving (hfn ▸ hF) room1 hlv
    obtain ⟨jump, w₄, hend, hj⟩ := hR
    have back : StepsIn (Machine.fenced P F) P (lone (b.atR a (.code (.rangeFunc g ps asg bd) :: k)) cs w) (lone (b.atR { a with defers := mark ++ a.defers } ((jump.map Item.code).toList ++ k)) cs w₄) := by
      refine .head h0 enter (StepsIn.trans hst (.head hl ?_ (.one (fenced_calm (fr := b.atR { a with defers := mark ++ a.defers } (.endRangeFunc l :: k)) hb hr rfl) (stepR_endRangeFunc hend))))
      rw [← finish_atR_inRangeFunc l v]; exact step_leave_returned hlv
    cases jump with
    | none => exact ⟨.normal, _, w₄, hj, back⟩
    | some c =>
      obtain ⟨e', a'', w₅, hq, harr⟩ := hj b k cs hro hb hr;exact ⟨e', a'', w₅, hq, .of_steps back harr⟩
theorem pj {f : FuncId} {fn : Func} {c : Code} {args : Array Value} {w : World} {R : Ending → World → Prop} (hf : P.funcs[f]? = some fn) (hb : fn.body = some c) (hF : F.fn f)
    (h : wpV c F n P (bodyPostM F n P fn R) { tmps := args ++ Array.replicate (fn.ntmps - args.size) undef, defers := [] } w) (hro : F.round = none := by rfl) : CallsIn F n P f args w R := by
  refine ⟨hF, fun cs hr => ?_⟩;obtain ⟨b, hbd⟩ : ∃ b : Frame, b = { (default : Frame) with fn := f, kind := .normal, roundOf := none } := ⟨_, rfl⟩
  have hstart : Frame.enter P f args .normal = b.atR { tmps := args ++ Array.replicate (fn.ntmps - args.size) undef, defers := [] } [.code c] := by rw [hbd]; simp [Frame.enter, Frame.atR, hf, hb]
  have hfn : P.funcs[b.fn]? = some fn := by rw [hbd]; exact hf
  have hFb : F.fn b.fn := by rw [hbd]; exact hF
  have hk : b.kind = .normal := by rw [hbd]
  have hbf : b.fn = f := by rw [hbd]
  obtain ⟨e, a', w', hq, harr⟩ := h b [] cs (by rw [hbd]; exact hro.symm) hFb hr ⟨fn, hfn⟩
  rw [← hstart] at harr
  have out : ∀ (u : FrameMode) (fr : Frame), fr.mode = u → fr.defers = a'.defers → fr.tmps = a'.tmps → fr.fn = b.fn → fr.kind = .normal → StepsIn (Machine.fenced P F) P (lone (Frame.enter P f args .normal) cs w) (lone fr cs w') →
      LeavesInM F n P fn a'.tmps R a'.defers u w' → ∃ e w' fr', R e w' ∧ ComesIn (Machine.fenced P F) P (lone (Frame.enter P f args .normal) cs w) (lone fr' cs w') e ∧ fr'.fn = f ∧ fr'.leaving P w' e := by
    intro u fr h1 h2 h3 h4 h5 hs hl;obtain ⟨e', w'', fr', hR, hs', hfn', hl'⟩ := leaves_stepsInM a'.defers u w' fr cs h1 h2 h3 (by rw [h4]; exact hfn) h5 (by rw [h4]; exact hFb) hr hl;exact ⟨e', w'', fr', hR, ComesIn.of_steps hs hs', by rw [hfn', h4, hbf], hl'⟩
  cases e with
  | normal => exact out .returning { b.atR a' [] with mode := .returning } rfl rfl rfl rfl hk (StepsIn.trans harr (.one (fenced_calm (fr := b.atR a' []) hFb hr rfl) (stepR_end (by rw [hbd])))) hq
  | ret =>
    obtain ⟨todo, hs⟩ := harr.1 (by rw [hbd]);exact out .returning { b.atR a' todo with mode := .returning } rfl rfl rfl rfl hk hs hq
  | panic chain =>
    obtain ⟨todo, hs⟩ := harr;exact out (.panicking chain) { b.atR a' todo with mode := .panicking chain } rfl rfl rfl rfl hk hs hq
  | exit id => exact hq.elim
  | goto l => exact hq.elim
  | outgrown => exact ⟨.outgrown, w', b, hq, harr.resolve_left (by rw [hbd]; simp), by rw [hbd], trivial⟩
end
section
variable {P : Program} {N : Nat} {Q : dF}
def AWV (P : Program) (N : Nat) (c : Code) (Q : dF) (s : St) : Prop := ∀ F I w a, Inv I (s.A ++ F) w → RelS N I w s a → wpV c (cN none) 0 P (CQ N F I w Q) a w
theorem AWV.of {c : Code} {s : St} (h : AW P none N c Q s) : AWV P N c Q s := fun F I w a hI hS => wpV_of (h F I w a hI hS)
theorem AWV.seq {x y : Code} {s : St} (h : AWV P N x (Then (AWV P N y Q) Q) s) : AWV P N (.seq x y) Q s := fun F I w a hI hS => by
  refine wpV_seq (jm (h F I w a hI hS) fun e a' w' hq => ?_);obtain ⟨I', s', E, hI', hS', hq⟩ := hq
  cases e with
  | normal => exact jm (hq F I' w' a' hI' hS') fun _ _ _ => da E fun _ _ h => h
  | _ => exact ⟨I', s', E, hI', hS', hq⟩
def NoJump (Q : dF) : dF
  | .exit _, _ => False
  | .goto _, _ => False
  | e, s => Q e s
theorem AWV.block {id : Nat} {c : Code} {s : St} (h : AWV P N c (NoJump Q) s) : AWV P N (.block id c) Q s := fun F I w a hI hS => by
  refine qF (jm (h F I w a hI hS) fun e a' w' hq => ?_);obtain ⟨I', s', E, hI', hS', hq⟩ := hq
  cases e with
  | exit id => exact hq.elim
  | goto l => exact hq.elim
  | _ => exact ⟨I', s', E, hI', hS', hq⟩
def pk {σ τ : Type} (pc : List PanicEntry) (T : σ → τ → List Chunk) (J : σ → Option Code) (rv : σ × Option Bool) : dF
  | .normal, s => rv.2 = some true ∧ J rv.1 = none ∧ ∃ t', Sub (T rv.1 t') s.A
  | .ret, s => rv.2 = some false ∧ J rv.1 = some .ret ∧ ∃ t', Sub (T rv.1 t') s.A
  | .exit id, s => rv.2 = some false ∧ J rv.1 = some (.exit id) ∧ ∃ t', Sub (T rv.1 t') s.A
  | .goto l, s => rv.2 = some false ∧ J rv.1 = some (.goto l) ∧ ∃ t', Sub (T rv.1 t') s.A
  | .panic c, s => rv.2 = none ∧ c = pc ∧ s.ds = [] ∧ ∃ t', Sub (T rv.1 t') s.A
  | .outgrown, _ => False
def outc (pc : List PanicEntry) : Option Bool → AE
  | some b => .ret (.v (.bool b))
  | none => .pan pc
def outT {σ τ : Type} (T' Tp : σ → τ → List Chunk) (rv : σ × Option Bool) (t : τ) : List Chunk := match rv.2 with
  | some _ => T' rv.1 t
  | none => Tp rv.1 t
theorem pn {α σ τ : Type} {gf : Operand} {ps : Array Tmp} {asg bd : Code} {fs cs : List AV} {e : Env} {ds : List ADef} {A Own C B Own1 : List Chunk} (pc : List PanicEntry)
    (enc : α → List AV) (T : σ → τ → List Chunk) (J : σ → Option Code) (k : σ → α → Option (σ × Option Bool)) (s₀ : σ) (t₀ : τ) (s₁ : σ) (b₁ : Bool) (io it : List Nat) {f : FuncId}
    (hg : opv e gf = .fn (.func f) fs cs) (hf : ∀ args w, (callFunc f args).run P w = .ok (.enter f args) w) (hps : ∀ x, (enc x).length = ps.size) (hN : ∀ p ∈ ps.toList, p < N)
    (p1 : fP A io = some (Own, C)) (p2 : fP C it = some (T s₀ t₀, B)) (hJ : J s₀ = none)
    (hiter : ∀ (o : Nat) (T' Tp : σ → τ → List Chunk), (∀ s t x rv, k s x = some rv → fS P o (enc x) (T' s t) fun ae A' => ∃ t', ae = outc pc rv.2 ∧ A' = outT T' Tp rv t') →
      ACalls P f (fs ++ [.yl o] ++ cs) (Own ++ T' s₀ t₀) fun ae A' => ∃ t₁, (b₁ = false ∧ ae = .ret (.tup []) ∧ A' = Own1 ++ T' s₁ t₁) ∨ (b₁ = true ∧ ae = .pan pc ∧ (A' = T' s₁ t₁ ∨ A' = Tp s₁ t₁)))
    (hround : ∀ l s t x rv, k s x = some rv → J s = none ∧ AW P (some l) N asg (qn (AW P (some l) N bd (pk pc T J rv))) ⟨kh (ps.toList.zip (enc x)) e, [], T s t⟩)
    (kp : b₁ = true → ∀ o2 t₁, Q (.panic pc) ⟨e, .mark o2 :: ds, .db o2 :: (T s₁ t₁ ++ B)⟩)
    (kk : b₁ = false → ∀ o2 t₁, match J s₁ with
      | none => Q .normal ⟨e, .mark o2 :: ds, .db o2 :: (Own1 ++ (T s₁ t₁ ++ B))⟩
      | some c => AW P none N c Q ⟨e, .mark o2 :: ds, .db o2 :: (Own1 ++ (T s₁ t₁ ++ B))⟩) :
    AWV P N (.rangeFunc gf ps asg bd) Q ⟨e, ds, A⟩ := fun F I w a hI hS => by
  have hp : A.Perm (Own ++ (T s₀ t₀ ++ B)) := (cw io _ _ _ p1).trans ((cw it _ _ _ p2).append_left Own)
  refine qE fun fn hfn hval => ?_
  obtain ⟨xs, ys, hv, hxs, hys⟩ := ox (hg ▸ hS.op gf);obtain ⟨l, b, o2, o1, w1, I1, hrun, E1, ho1, ho2, hI1⟩ := jO (P := P) (fn := fn) (ps := ps) (asg := asg) (bd := bd) (env := fun t => ev e t) hI hS.size hS.env
  have hS1 := hS.mono E1
  have he : xs.toArray ++ #[Value.func (.yield l) #[] #[]] ++ ys.toArray = (xs ++ [Value.func (.yield l) #[] #[]] ++ ys).toArray := by apply Array.ext'; simp
  refine ⟨l, _, w1, { target := .fn (.func f) ys.toArray, args := xs.toArray ++ #[Value.func (.yield l) #[] #[]] }, w1, f, (xs ++ [Value.func (.yield l) #[] #[]] ++ ys).toArray, w1, hrun, ?_, fun _ _ => cQ _, ?_, iQ, ?_⟩
  · have := gj (P := P) (ρ := a.eval) (args := #[.const (.func (.yield l) #[] #[])]) (argTypes := #[]) (T := 0) (w := w1) hv
    simpa [rangeCall, Act.eval] using this
  · simp only [invoke, he]
    exact hf _ _
  -- the record's chunk
  obtain ⟨LP, hLP⟩ : ∃ LP : LoopState → Option Code → Chunk, LP = fun st j => .lp o1 st j fn N (fun t => ev e t) ps asg bd o2 := ⟨_, rfl⟩
  obtain ⟨T', hT'⟩ : ∃ T' : σ → τ → List Chunk, T' = fun s t => LP (if (J s).isNone then .ready else .done) (J s) :: T s t := ⟨_, rfl⟩
  obtain ⟨Tp, hTp⟩ : ∃ Tp : σ → τ → List Chunk, Tp = fun s t => LP .busy none :: T s t := ⟨_, rfl⟩
  have hY : ∀ s t x rv, k s x = some rv → fS P o1 (enc x) (T' s t) fun ae A' => ∃ t', ae = outc pc rv.2 ∧ A' = outT T' Tp rv t' := by
    intro s t x rv hk F' I' w' vs l' hI' hol hrl;obtain ⟨hJs, hwalk⟩ := hround l' s t x rv hk
    have hT0 : T' s t = LP .ready none :: T s t := by rw [hT']; simp [hJs]
    rw [hT0] at hI'
    rw [hLP] at hI'
    obtain ⟨tmps, hyr, hts, htr⟩ := nj (P := P) (A := T s t ++ F') hI' hol vs.toArray (by rw [List.size_toArray, hrl.1]; exact hps x);refine ⟨fn, _, asg, bd, hyr, oS hfn hval ?_⟩
    have hlen : vs.length = ps.toList.length := by rw [hrl.1, hps x]; simp
    have hzip : (ps.zip vs.toArray).toList = ps.toList.zip vs := by simp
    have hfold : (ps.zip vs.toArray).foldl (fun tmps p => tmps.setIfInBounds p.1 p.2) tmps = (ps.toList.zip vs).foldl (fun tmps p => tmps.setIfInBounds p.1 p.2) tmps := by
      rw [← hzip, Array.foldl_toList]
    have hput := kb (N := N) (ps.toList.zip vs) (ps.toList.zip (enc x)) e tmps hts htr
      (by rw [List.map_fst_zip (by omega), List.map_fst_zip (by have := hps x; simp; omega)])
      (fun q hq => hN _ (List.of_mem_zip hq).1)
      (by rw [List.map_snd_zip (by have := hps x; simp; omega), List.map_snd_zip (by omega)]; exact hrl)
    have hIp : Inv I' (T s t ++ (LP .ready none :: F')) w' := by
      rw [hLP]
      refine hI'.perm ?_;exact (cd).symm
    have hSr : RelS N I' w' ⟨kh (ps.toList.zip (enc x)) e, [], T s t⟩ { tmps := (ps.zip vs.toArray).foldl (fun tmps (p : Nat × Value) => tmps.setIfInBounds p.1 p.2) tmps, defers := [] } := by
      refine ⟨(congrArg Array.size hfold).trans hput.1, fun t0 => ?_, .nil⟩
      have h0 := hput.2 t0
      rw [← hfold] at h0
      exact h0
    refine wpIn_mono (hwalk (LP .ready none :: F') I' w' _ hIp hSr) fun e1 a1 w1' hq1 => ?_
    obtain ⟨I2, s2, E2, hI2, hS2, hq1⟩ := hq1
    cases e1 with
    | normal =>
      have hI2p : Inv I2 (.lp o1 .ready none fn N (fun t => ev e t) ps asg bd o2 :: (s2.A ++ F')) w1' := by
        refine hI2.perm ?_
        rw [hLP]
        exact cd
      obtain ⟨w2, hbr, E3, hI3⟩ := jb (P := P) hI2p (E2.obj _ _ hol);refine ⟨w2, hbr, ?_⟩
      have hI3p : Inv I2 (s2.A ++ (.lp o1 .busy none fn N (fun t => ev e t) ps asg bd o2 :: F')) w2 := hI3.perm (cd).symm
      refine wpIn_mono (hq1 _ I2 w2 a1 hI3p (hS2.mono E3)) fun e3 a3 w3 hq3 => ?_
      obtain ⟨I4, s4, E4, hI4, hS4, hq3⟩ := hq3
      have hol4 := E4.obj _ _ (E3.obj _ _ (E2.obj _ _ hol))
      have E14 := (E2.trans E3).trans E4
      have lpfront : ∀ t', Sub (T rv.1 t') s4.A → Inv I4 (.lp o1 .busy none fn N (fun t => ev e t) ps asg bd o2 :: (T rv.1 t' ++ F')) w3 := fun t' hsub => (hsub.inv hI4).perm cd
      have fin : ∀ (jump : Option Code) (t' : τ), J rv.1 = jump → Sub (T rv.1 t') s4.A → rv.2 = some jump.isNone →
          ∃ v w5, (Instr.endRound l' jump).run P w3 = .ok v w5 ∧ ∃ I5 ae A', Ext I' w' I5 w5 ∧ Inv I5 (A' ++ F') w5 ∧ kY I5 w5 ae (.returned v) ∧ ∃ t', ae = outc pc rv.2 ∧ A' = outT T' Tp rv t' := by
        intro jump t' hj hsub hr;obtain ⟨w5, hend, E5, hI5⟩ := kx (P := P) (lpfront t' hsub) hol4 jump;refine ⟨_, w5, hend, I4, .ret (.v (.bool jump.isNone)), T' rv.1 t', E14.trans E5, ?_, .v _, t', by rw [hr]; rfl, by simp only [outT, hr]⟩
        have : T' rv.1 t' = .lp o1 (if jump.isNone then .ready else .done) jump fn N (fun t => ev e t) ps asg bd o2 :: T rv.1 t' := by rw [hT', hLP, ← hj]
        rw [this]
        exact hI5
      cases e3 with
      | normal => obtain ⟨hr, hj, t', hsub⟩ := hq3; exact fin none t' hj hsub hr
      | ret => obtain ⟨hr, hj, t', hsub⟩ := hq3; exact fin (some .ret) t' hj hsub hr
      | exit id => obtain ⟨hr, hj, t', hsub⟩ := hq3; exact fin (some (.exit id)) t' hj hsub hr
      | goto q => obtain ⟨hr, hj, t', hsub⟩ := hq3; exact fin (some (.goto q)) t' hj hsub hr
      | panic c =>
        obtain ⟨hr, hc, hds, t', hsub⟩ := hq3;subst hc
        have hdn : a3.defers = [] := dl (hds ▸ hS4.ds)
        refine ⟨hdn, I4, .pan c, Tp rv.1 t', E14, ?_, rfl, t', by rw [hr]; rfl, by simp only [outT, hr]⟩
        have : Tp rv.1 t' = .lp o1 .busy none fn N (fun t => ev e t) ps asg bd o2 :: T rv.1 t' := by rw [hTp, hLP]
        rw [this]
        exact lpfront t' hsub
      | outgrown => exact hq3.elim
    | _ => exact hq1.elim
  -- the one call
  have hT0 : T' s₀ t₀ = LP .ready none :: T s₀ t₀ := by rw [hT']; simp [hJ]
  have hI1p : Inv I1 ((Own ++ T' s₀ t₀) ++ (.db o2 :: (B ++ F))) w1 := by
    refine hI1.perm ?_
    rw [hT0, hLP]
    have h1 : (A ++ F).Perm (Own ++ (T s₀ t₀ ++ (B ++ F))) := by
      refine (hp.append_right F).trans (List.Perm.of_eq ?_)
      simp
    refine ((h1.cons _).cons _).trans ?_;exact (List.Perm.of_eq (by simp)).trans (kC _ _ Own (T s₀ t₀) (B ++ F)).symm
  have hrl : RelL I1 w1 (fs ++ [.yl o1] ++ cs) (xs ++ [Value.func (.yield l) #[] #[]] ++ ys) :=
    ((hxs.mono E1).append (dH (.yl o1 l ho1) dZ)).append (hys.mono E1)
  refine (AO.call.callsIn_wide').2 ((hiter o1 T' Tp hY _ I1 w1 _ hI1p hrl).mono fun en w2 ⟨I2, ae, A', E2, hI2, hre, t₁, hcase⟩ => ?_)
  have E12 := E1.trans E2
  have hmk : ∀ w3, Ext I2 w2 I2 w3 → ∀ A2, RelS N I2 w3 ⟨e, .mark o2 :: ds, A2⟩ { a with defers := [{ target := .collected b, args := #[] }] ++ a.defers } := fun w3 E3 A2 =>
    ⟨hS.size, ((hS1.mono E2).mono E3).env, .cons (.mark o2 b (E3.obj _ _ (E2.obj _ _ ho2))) ((hS1.mono E2).mono E3).ds⟩
  rcases hcase with ⟨hb1, hae, hA'⟩ | ⟨hb1, hae, hA'⟩
  · subst hae
    cases en with
    | returned v =>
        have hA2 : A' = Own1 ++ (LP (if (J s₁).isNone then .ready else .done) (J s₁) :: T s₁ t₁) := by rw [hA', hT']
        rw [hA2, hLP] at hI2
        have hI2p : Inv I2 (.lp o1 (if (J s₁).isNone then .ready else .done) (J s₁) fn N (fun t => ev e t) ps asg bd o2 :: (.db o2 :: (Own1 ++ (T s₁ t₁ ++ B)) ++ F)) w2 := by
          refine hI2.perm ?_;exact (kC _ _ Own1 (T s₁ t₁) (B ++ F)).trans (List.Perm.of_eq (by simp))
        obtain ⟨w3, hend, E3, hI3⟩ := lq (P := P) hI2p (E2.obj _ _ ho1) (by split <;> simp)
        have hS3 := hmk w3 E3 (.db o2 :: (Own1 ++ (T s₁ t₁ ++ B)))
        have hk := kk hb1 o2 t₁
        refine ⟨_, w3, hend, ?_⟩
        cases hj : J s₁ with
        | none => rw [hj] at hk; exact ⟨I2, _, E12.trans E3, hI3, hS3, hk⟩
        | some c => rw [hj] at hk; exact wpIn_mono (hk F I2 w3 _ hI3 hS3) fun _ _ _ => da (E12.trans E3) fun _ _ h => h
    | panicked c => exact hre.elim
    | outgrown => exact hre.elim
  · subst hae
    cases en with
    | returned v => exact hre.elim
    | outgrown => exact hre.elim
    | panicked c =>
      cases hre
      have hS3 := hmk w2 (bI _ _) (.db o2 :: (T s₁ t₁ ++ B))
      have hk := kp hb1 o2 t₁
      refine ⟨I2, _, E12, ?_, hS3, hk⟩
      have drop : ∀ c : Chunk, Inv I2 ((c :: T s₁ t₁) ++ (.db o2 :: (B ++ F))) w2 → Inv I2 ((.db o2 :: (T s₁ t₁ ++ B)) ++ F) w2 := fun c h => by
        have h1 := h.sub (List.sublist_cons_self ..)
        refine h1.perm ?_;exact (cd).trans (List.Perm.of_eq (by simp))
      rcases hA' with hA' | hA'
      · rw [hA', hT'] at hI2; exact drop _ hI2
      · rw [hA', hTp] at hI2; exact drop _ hI2
def rG (P : Program) (fn : Func) (N : Nat) (R : AE → List Chunk → Prop) : dF
  | .normal, s | .ret, s => ∃ B, Unmark s.ds s.A B ∧ ∃ av A', ResV P fn N ⟨s.env, [], B⟩ av ∧ Sub A' B ∧ R (.ret av) A'
  | .panic c, s => ∃ B, Unmark s.ds s.A B ∧ ∃ A', Sub A' B ∧ R (.pan c) A'
  | _, _ => False
theorem kX {f : FuncId} {fn : Func} {c : Code} {args : List AV} {A : List Chunk} {R : AE → List Chunk → Prop} (hf : P.funcs[f]? = some fn) (hb : fn.body = some c) (hl : Nat.ble args.length fn.ntmps = true)
    (h : AWV P fn.ntmps c (rG P fn fn.ntmps R) ⟨gB 0 args, [], A⟩) : ACalls P f args A R := fun F I w vs hI hv => by
  refine (callsIn_wide (n := 0)).1 (pj (F := Fence.wide) hf hb trivial ?_)
  refine jm (h F I w _ hI (jw hv (ab hl))) fun e a w' hq => ?_
  obtain ⟨I', s', E, hI', hS', hq⟩ := hq
  have go : (∃ B, Unmark s'.ds s'.A B ∧ ∃ av A', ResV P fn fn.ntmps ⟨s'.env, [], B⟩ av ∧ Sub A' B ∧ R (.ret av) A') → LeavesInM (cN none) 0 P fn a.tmps (fun e w' => ∃ I' ae A', Ext I w I' w' ∧ Inv I' (A' ++ F) w' ∧ kY I' w' ae e ∧ R ae A') a.defers .returning w' := by
    rintro ⟨B, hu, av, A', hres, hsub, hR⟩
    refine Unmark.sound (N := fn.ntmps) (e := s'.env) (F := F) (by simp) hu a.defers I' w' a hI' hS' rfl fun w2 X hI2 hS2 => ?_
    obtain ⟨v, hrun, hv⟩ := hres F I' w2 { a with defers := [] } hI2 hS2;exact ⟨v, hrun, I', .ret av, A', E.trans X, hsub.inv hI2, hv, hR⟩
  cases e with
  | normal => exact go hq
  | ret => exact go hq
  | panic c =>
    obtain ⟨B, hu, A', hsub, hR⟩ := hq
    refine Unmark.sound (N := fn.ntmps) (e := s'.env) (F := F) (by simp) hu a.defers I' w' a hI' hS' rfl fun w2 X hI2 hS2 => ?_
    exact ⟨I', .pan c, A', E.trans X, hsub.inv hI2, rfl, hR⟩
  | exit id => exact hq.elim
  | goto l => exact hq.elim
  | outgrown => exact hq.elim
section
variable {ro : Option Nat} {ops : Array Oper}
theorem AO.callPanR {rest : List Nat} {d : Nat} {f : FuncId} {args : Array Operand} {argTypes : Array TypeId} {T : TypeId} {pos : String} {after : Array Edge} {g : Option (Nat × Bool)} {e : Env} {ds : List ADef} {A A1 B : List Chunk} {R : AE → List Chunk → Prop} {avs : List AV} (is : List Nat)
    (hd : Nat.blt d N = true) (hf : ∀ args w, (callFunc f args).run P w = .ok (.enter f args) w) (ha : args.toList.map (opv e) = avs)
    (h : ACalls P f avs A1 R) (p : fP A is = some (A1, B)) (hn : ∀ av A', R (.ret av) A' → False) (k : ∀ c A', R (.pan c) A' → Q (.panic c) ⟨e, ds, A' ++ B⟩) :
    AO P ro N ops Q rest ⟨some d, .call ⟨.value (.func f), args, argTypes⟩, T, pos, after, g⟩ ⟨e, ds, A⟩ :=
  ee B hd hf ha h (cw is _ _ _ p) (fun av A' h1 => (hn av A' h1).elim) k
end
section
variable {ops : Array Oper}
theorem AO.yieldOk {σ τ : Type} {T Tp : σ → τ → List Chunk} {pc : List PanicEntry} {rv : σ × Option Bool} {b : Bool} {rest : List Nat} {d : Nat} {x : Operand} {o : Nat} {args : Array Operand} {argTypes : Array TypeId} {Ty : TypeId} {pos : String} {after : Array Edge} {g : Option (Nat × Bool)} {e : Env} {ds : List ADef} {A : List Chunk} {avs : List AV}
    (m : Nat) (hd : Nat.blt d N = true) (hx : opv e x = .yl o) (ha : args.toList.map (opv e) = avs) (h : fS P o avs (A.drop m) fun ae A' => ∃ t', ae = outc pc rv.2 ∧ A' = outT T Tp rv t') (hr : rv.2 = some b)
    (k : ∀ t', AR P none N ops Q rest ⟨(d, .v (.bool b)) :: e, ds, A.take m ++ T rv.1 t'⟩) :
    AO P none N ops Q rest ⟨some d, .call ⟨.value x, args, argTypes⟩, Ty, pos, after, g⟩ ⟨e, ds, A⟩ :=
  AO.yield (A.take m) (A.drop m) hd hx ha (List.take_append_drop m A).symm h (fun av T' ⟨t', h1, h2⟩ => by
    rw [hr] at h1; cases h1
    have h3 : T' = T rv.1 t' := by rw [h2]; simp only [outT, hr]
    subst h3; exact k t') (fun c T' ⟨t', h1, _⟩ => by rw [hr] at h1; cases h1)
theorem AO.yieldPan {σ τ : Type} {T Tp : σ → τ → List Chunk} {pc : List PanicEntry} {rv : σ × Option Bool} {rest : List Nat} {d : Nat} {x : Operand} {o : Nat} {args : Array Operand} {argTypes : Array TypeId} {Ty : TypeId} {pos : String} {after : Array Edge} {g : Option (Nat × Bool)} {e : Env} {ds : List ADef} {A : List Chunk} {avs : List AV}
    (m : Nat) (hd : Nat.blt d N = true) (hx : opv e x = .yl o) (ha : args.toList.map (opv e) = avs) (h : fS P o avs (A.drop m) fun ae A' => ∃ t', ae = outc pc rv.2 ∧ A' = outT T Tp rv t') (hr : rv.2 = none)
    (k : ∀ t', Q (.panic pc) ⟨e, ds, A.take m ++ Tp rv.1 t'⟩) :
    AO P none N ops Q rest ⟨some d, .call ⟨.value x, args, argTypes⟩, Ty, pos, after, g⟩ ⟨e, ds, A⟩ :=
  AO.yield (A.take m) (A.drop m) hd hx ha (List.take_append_drop m A).symm h (fun av T' ⟨t', h1, h2⟩ => by rw [hr] at h1; cases h1) (fun c T' ⟨t', h1, h2⟩ => by
    rw [hr] at h1; cases h1
    have h3 : T' = Tp rv.1 t' := by rw [h2]; simp only [outT, hr]
    subst h3; exact k t')
end
theorem AWV.nil_objAt {c : Code} {e : Env} {ds : List ADef} {A : List Chunk} {o : Nat} {cs : List AV} (i j k : Nat) (Ty : TypeId) (hA : A[i]? = some (.obj o cs)) (hj : cs[j]? = some (.v (.slice none 0 0)))
    (h : ∀ t, AWV P N c Q ⟨e, ds, .tok t Ty :: A.set i (.obj o (cs.set j (.sl k [] (some t))))⟩) : AWV P N c Q ⟨e, ds, A⟩ := fun F I w a hI hS => by
  obtain ⟨t, I', E, hI'⟩ := Inv.nil_objAt hI i j k Ty hA hj
  exact jm (h t F I' w a hI' ⟨hS.size, (hS.mono E).env, (hS.mono E).ds⟩) fun _ _ _ => da E fun _ _ h => h
end
end Go.Av
namespace Go.Av
open Go.RowKit
section
variable {P : Program} {A : List Chunk} {e : Env} {x y z : Operand} {d : Option Nat} {pos : String} {after : Array Edge} {g : Option (Nat × Bool)} {f : FuncId} {fn : Func} {ts : Array TypeId} {T2 : TypeId}
structure Ext0 (P : Program) (f : FuncId) (fn : Func) (ext : Array Value → Sem Value) : Prop where
  hf : P.funcs[f]? = some fn
  nm : (fn.name == "runtime.NumGoroutine") = false
  nb : fn.body.isNone = true
  nn : Extern.findNext fn = none
  he : Extern.find fn = some ext
theorem ns {I : Info} {w w' : World} {ρ : Operand → Value} {args : Array Operand} {r : Next} (hρ : ∀ x, Rel I w (opv e x) (ρ x)) (h : (callFunc f (args.map ρ)).run P w = .ok r w') :
    (execOp ρ ⟨d, .call ⟨.value (.func f), args, ts⟩, T2, pos, after, g⟩).run P w = .ok r w' := by
  have h0 := bS (hρ (.func f))
  simp only [execOp, resolve, h0, Deferred.ofValue, Sem.run_bind, Sem.run_pure, Result.andThen_ok, invoke]
  simp only [Array.empty_append, Array.append_empty]
  exact h
end
end Go.Av
namespace Go.Av
open Go.RowKit Go.Pv
theorem oT {I : Info} {A : List Chunk} {w w' : World} {l : List UInt8} {El : Nat} {v : Value} (hI : Inv I A w) (hb : Below w.heap.size w w') (h : w'.ownsRow w.heap.size El 1 v l.length ((Go.Lib.numsL l).map (Value.int .u8))) :
    ∃ t I', Ext I w I' w' ∧ Inv I' (.tok t El :: A) w' ∧ Rel I' w' (slE Enc.byte l (some t)) v := by
  obtain ⟨h1, h2⟩ := h
  rcases h2 with ⟨rfl, h2⟩ | ⟨g, cap, cur, hv, hg, hh, hn, hmax, hcs, htk⟩
  · have : l = [] := List.eq_nil_of_length_eq_zero h2
    subst this;obtain ⟨X, hI'⟩ := Inv.below hI hb;obtain ⟨t, ht⟩ := hI'.fresh_tok;obtain ⟨E, hI2⟩ := hI'.nil_tok ht El;exact ⟨t, _, X.trans E, hI2, .slnil _ _ (by simp [Info.nilTok])⟩
  · subst hv
    obtain ⟨t, X, hI'⟩ := hI.new_tok (n := l.length) (c := cap) (arr := cur.toList) hb hg (by simpa using hh) (.inl rfl) (by simpa using hcs) hn;refine ⟨t, _, X, hI', ?_⟩
    have hfl : (Enc.byte.fl l).length = l.length := by rw [eu]; simp
    unfold slE
    refine .sl 1 _ (some t) g 0 _ _ (fun j => ((Go.Lib.numsL l).map (Value.int .u8)).getD j undef) (by decide) (by rw [hfl, Nat.mul_one]) hn (fun m hm => ?_) (fun j hj => ?_) (fun j hj => ?_) (fun t' e => ?_)
    · simp only [Info.putTok, if_true, Option.some.injEq] at hm
      rw [hfl]; omega
    · rw [hfl] at hj
      rw [Nat.zero_add]
      have : cur.toList[j]? = ((Go.Lib.numsL l).map (Value.int .u8))[j]? := by
        rw [← htk, List.getElem?_take, if_pos (by omega)]
      simp only [World.cell?, hh, Option.isSome_none, Bool.false_eq_true, if_false]
      rw [← Array.getElem?_toList, this]
      simp [List.getD, hj, Go.Lib.numsL_length]
    · have hj' : j < l.length := by rw [hfl] at hj; exact hj
      have h3 : (Enc.byte.fl l)[j] = u8 l[j] := by simp only [eu, List.getElem_map]
      rw [h3]
      have h4 : ((Go.Lib.numsL l).map (Value.int .u8)).getD j undef = .int .u8 (l[j].toNat : Int) := by simp [List.getD, hj', Go.Lib.numsL]
      rw [h4]
      exact .v _
    · cases e
      exact ⟨by simp [Info.putTok, hfl], rfl⟩
section
variable {P : Program} {A : List Chunk} {e : Env} {x y : Operand} {d : Option Nat} {pos : String} {after : Array Edge} {g : Option (Nat × Bool)} {f : FuncId} {fn : Func} {ts : Array TypeId} {T2 : TypeId}
theorem lW (a : Option Addr) (cap : Nat) (cv : Int) (w : World) : (Extern.BytealgIndexByte.indexByte #[.slice a 0 cap, .int .u8 cv]).run P w = .ok (.int .i64 (-1)) w := by
  cases a with
  | none => exact Go.Lib.run_indexByteNil w 0 cap cv
  | some a =>
    have hs := Go.Lib.run_indexByteNil (P := P) w 0 cap cv
    exact hs
theorem mO {l : List UInt8} {t : Option Nat} {c : UInt8} (h : Ext0 P f fn Extern.BytealgIndexByte.indexByte) (hx : opv e x = slE Enc.byte l t) (hy : opv e y = u8 c) :
    OpR P ⟨d, .call ⟨.value (.func f), #[x, y], ts⟩, T2, pos, after, g⟩ e A (i64 (Go.Lib.indexByte l c)) A := fun F I w ρ hI hρ => by
  obtain ⟨a, cap, hv, hc, hb, hx1⟩ := eb (hx ▸ hρ x)
  have h2 := bS (hy ▸ hρ y)
  have key : (Extern.BytealgIndexByte.indexByte #[.slice a l.length cap, .int .u8 (c.toNat : Int)]).run P w = .ok (.int .i64 (Go.Lib.indexByte l c)) w := by
    by_cases hne : l = []
    · subst hne
      exact lW a cap _ w
    · obtain ⟨b, o, rfl, g1⟩ := hx1 hne
      rw [Go.Lib.run_indexByteSlice w b o l.length cap (Go.Lib.numsL l) (Go.Lib.numsL_length _) g1, Go.Lib.bytesOf_numsL]
      simp
  refine ⟨_, _, w, I, ns hρ (r := .value (.int .i64 (Go.Lib.indexByte l c))) ?_, .inl rfl, bI _ _, hI, .v _⟩
  rw [show (#[x, y].map ρ) = #[ρ x, ρ y] by simp, hv, h2, run_callFunc_extern h.hf h.nm h.nb h.nn h.he, key]
  rfl
end
section
variable {P : Program} {A : List Chunk} {e : Env} {x y : Operand} {d : Option Nat} {T T2 : TypeId} {pos : String} {after : Array Edge} {g : Option (Nat × Bool)}
theorem int_fl (l : List Int) : Enc.int.fl l = l.map fun n => i64 n := by
  induction l with
  | nil => rfl
  | cons a l ih => rw [Enc.fl_cons, ih]; rfl
theorem pd {l z : List Int} {pre post vs : List AV} {o off k n : Nat} {i v : Int} (hsz : br P T = some 1) (hx : opv e x = .pt o (off + i.toNat)) (hy : opv e y = i64 v) (hA : A[k]? = some (.obj o (pre ++ (Enc.int.fl l ++ post)))) (hp : pre.length = off)
    (hl : l.length = n) (hg : cA i n = true) (he : l.set i.toNat v = z) (hv : (List.range n).map (fun j => i64 (z.getD j 0)) = vs) :
    OpR P ⟨d, .store T x y, T2, pos, after, g⟩ e A .any (A.set k (.obj o (pre ++ (vs ++ post)))) := by
  obtain ⟨h1, h2⟩ := jE hg
  have hlt : i.toNat < l.length := by omega
  have hfl : (Enc.int.fl l).length = l.length := by rw [int_fl]; simp
  have h := ar (P := P) (d := d) (pos := pos) (after := after) (g := g) (T2 := T2) hsz hx hy rfl hA (by simp only [List.length_append, hfl, hp]; omega)
  have e1 : (pre ++ (Enc.int.fl l ++ post)).set (off + i.toNat) (i64 v) = pre ++ (vs ++ post) := by
    rw [List.set_append_right _ _ (by omega), hp, Nat.add_sub_cancel_left, List.set_append_left _ _ (by omega)]
    have e2 : (Enc.int.fl l).set i.toNat (i64 v) = vs := by
      rw [int_fl, ← List.map_set, he, ← hv]
      have hzl : z.length = n := by rw [← he, List.length_set, hl]
      apply List.ext_getElem
      · simp [hzl]
      · intro j h1 h2
        have hj : j < z.length := by simpa using h1
        simp [List.getD, hj]
    rw [e2]
  rw [e1] at h
  exact h
end
theorem pl {P : Program} {o : Oper} {e : Env} {A A' : List Chunk} {cs ds : List AV} (hw : WvL cs ds) (h : OpR P o e A (.agg cs) A') : OpR P o e A (.agg ds) A' := fun F I w ρ hI hρ => by
  obtain ⟨n, v, w', I', h1, h2, h3, h4, h5⟩ := h F I w ρ hI hρ;refine ⟨n, v, w', I', h1, h2, h3, h4, ?_⟩
  cases h5 with
  | agg _ xs hl hr =>
    have := hw.rel ⟨hl, hr⟩
    exact .agg _ xs this.1 this.2
theorem oa {P : Program} {o : Oper} {e : Env} {A A' : List Chunk} {cs cs' ds : List AV} (h : OpR P o e A (.agg cs') A') (hw : WvL cs ds) (hc : cs' = cs := by rfl) : OpR P o e A (.agg ds) A' := pl (hc ▸ hw) h
section
variable {P : Program} {ro : Option Nat} {N : Nat} {Q : dF} {ops : Array Oper}
theorem gy {f : FuncId} {fn : Func} {id : Nat} {r1 r2 : Code} {args : List AV} {A : List Chunk} {u u' : FrameMode} {R : AE → FrameMode → List Chunk → Prop} {v : Value} {av : AV} {t : Nat} {T : TypeId} {pos : String} {after : Array Edge} {l : List Nat}
    (hf : P.funcs[f]? = some fn) (hb : fn.body = some (.seq (.seq (.region id ops false) r1) r2)) (hl : Nat.ble args.length fn.ntmps = true) (hr : List.range ops.size = 0 :: l) (ho : ops[0]? = some ⟨some t, .call ⟨.builtin .recover, #[], #[]⟩, T, pos, after, none⟩)
    (ht : Nat.blt t fn.ntmps = true) (hu : Recovers u v u') (hv : conc av = some v)
    (h : ∀ cs, ASR P fn.ntmps ops cs (Then (AW P none fn.ntmps r1 (Then (AW P none fn.ntmps r2 (ci P fn fn.ntmps fun ae A' => R ae u' A')) (ci P fn fn.ntmps fun ae A' => R ae u' A'))) (ci P fn fn.ntmps fun ae A' => R ae u' A')) l ⟨(t, av) :: gB 0 args, [], A⟩) : ADCalls P f args A u R := fun F I w vs hI hvs => by
  refine callsD_of_wpS hf hb fun c₀ cs hu0 => ?_
  refine wpS_seq (wpS_seq (wpS_region ?_))
  rw [hr]
  have hrel := jw (A := A) hvs (ab hl)
  have hS : RelS fn.ntmps I w ⟨(t, av) :: gB 0 args, [], A⟩ (({ tmps := vs.toArray ++ Array.replicate (fn.ntmps - vs.toArray.size) undef, defers := [] } : Act).put (some t) v) :=
    hrel.put (ab ht) (conc_mk av v hv) A
  have key := h ({ c₀ with mode := u' } :: cs) F I w _ hI hS
  have fin : ∀ e a cs' w', cs' = ({ c₀ with mode := u' } : Frame) :: cs ∧ CQ fn.ntmps F I w (ci P fn fn.ntmps fun ae A' => R ae u' A') e a w' →
      bodyPostS P fn c₀ cs (fun e u' w' => ∃ I' ae A', Ext I w I' w' ∧ Inv I' (A' ++ F) w' ∧ kY I' w' ae e ∧ R ae u' A') e a cs' w' := by
    rintro e a cs' w' ⟨rfl, I', s', E, hI', hS', hq⟩
    cases e with
    | normal =>
      obtain ⟨hds, av, A', hres, hsub, hR⟩ := hq;obtain ⟨v, hrun, hv⟩ := hres F I' w' a hI' hS';exact ⟨dl (hds ▸ hS'.ds), u', rfl, v, hrun, I', .ret av, A', E, hsub.inv hI', hv, hR⟩
    | ret =>
      obtain ⟨hds, av, A', hres, hsub, hR⟩ := hq;obtain ⟨v, hrun, hv⟩ := hres F I' w' a hI' hS';exact ⟨dl (hds ▸ hS'.ds), u', rfl, v, hrun, I', .ret av, A', E, hsub.inv hI', hv, hR⟩
    | panic c =>
      obtain ⟨hds, A', hsub, hR⟩ := hq;exact ⟨dl (hds ▸ hS'.ds), u', rfl, I', .pan c, A', E, hsub.inv hI', rfl, hR⟩
    | exit id => exact hq.elim
    | goto l => exact hq.elim
    | outgrown => exact hq.elim
  have next2 : ∀ e a cs' w', cs' = ({ c₀ with mode := u' } : Frame) :: cs ∧ CQ fn.ntmps F I w (Then (AW P none fn.ntmps r2 (ci P fn fn.ntmps fun ae A' => R ae u' A')) (ci P fn fn.ntmps fun ae A' => R ae u' A')) e a w' →
      Exit.thenS (r2.wpS P (bodyPostS P fn c₀ cs (fun e u' w' => ∃ I' ae A', Ext I w I' w' ∧ Inv I' (A' ++ F) w' ∧ kY I' w' ae e ∧ R ae u' A'))) (bodyPostS P fn c₀ cs (fun e u' w' => ∃ I' ae A', Ext I w I' w' ∧ Inv I' (A' ++ F) w' ∧ kY I' w' ae e ∧ R ae u' A')) e a cs' w' := by
    rintro e a cs' w' ⟨rfl, I', s', E, hI', hS', hq⟩
    cases e with
    | normal =>
      refine wpS_of_wp ((wpIn_wide (n := 0)).1 (wpIn_mono (hq F I' w' a hI' hS') fun e a w' hq => ?_));exact fin e a _ w' ⟨rfl, da E (fun _ _ h => h) hq⟩
    | ret => exact fin .ret a _ w' ⟨rfl, I', s', E, hI', hS', hq⟩
    | panic c => exact fin (.panic c) a _ w' ⟨rfl, I', s', E, hI', hS', hq⟩
    | exit id => exact hq.elim
    | goto l => exact hq.elim
    | outgrown => exact hq.elim
  have next : ∀ e a cs' w', cs' = ({ c₀ with mode := u' } : Frame) :: cs ∧ CQ fn.ntmps F I w (Then (AW P none fn.ntmps r1 (Then (AW P none fn.ntmps r2 (ci P fn fn.ntmps fun ae A' => R ae u' A')) (ci P fn fn.ntmps fun ae A' => R ae u' A'))) (ci P fn fn.ntmps fun ae A' => R ae u' A')) e a w' →
      Exit.thenS (r1.wpS P (Exit.thenS (r2.wpS P (bodyPostS P fn c₀ cs (fun e u' w' => ∃ I' ae A', Ext I w I' w' ∧ Inv I' (A' ++ F) w' ∧ kY I' w' ae e ∧ R ae u' A'))) (bodyPostS P fn c₀ cs (fun e u' w' => ∃ I' ae A', Ext I w I' w' ∧ Inv I' (A' ++ F) w' ∧ kY I' w' ae e ∧ R ae u' A')))) (Exit.thenS (r2.wpS P (bodyPostS P fn c₀ cs (fun e u' w' => ∃ I' ae A', Ext I w I' w' ∧ Inv I' (A' ++ F) w' ∧ kY I' w' ae e ∧ R ae u' A'))) (bodyPostS P fn c₀ cs (fun e u' w' => ∃ I' ae A', Ext I w I' w' ∧ Inv I' (A' ++ F) w' ∧ kY I' w' ae e ∧ R ae u' A'))) e a cs' w' := by
    rintro e a cs' w' ⟨rfl, I', s', E, hI', hS', hq⟩
    cases e with
    | normal =>
      refine wpS_of_wp ((wpIn_wide (n := 0)).1 (wpIn_mono (hq F I' w' a hI' hS') fun e a w' hq => ?_));exact next2 e a _ w' ⟨rfl, da E (fun _ _ h => h) hq⟩
    | ret => exact fin .ret a _ w' ⟨rfl, I', s', E, hI', hS', hq⟩
    | panic c => exact fin (.panic c) a _ w' ⟨rfl, I', s', E, hI', hS', hq⟩
    | exit id => exact hq.elim
    | goto l => exact hq.elim
    | outgrown => exact hq.elim
  have key2 := lj l next _ _ _ key
  simp only [wpOpsS, ho, Region.wanted, if_true]
  have hrun : ∀ ρ : Operand → Value, (execOp ρ ⟨some t, .call ⟨.builtin .recover, #[], #[]⟩, T, pos, after, none⟩).run P w = .ok .recover w := fun ρ => rfl
  rw [hrun]
  rcases hu with ⟨older, rfl, rfl⟩ | ⟨rfl, rfl, rfl⟩
  · simp only [recoverD, hu0]
    exact key2
  · have hc : ({ c₀ with mode := .returning } : Frame) = c₀ := by rw [← hu0]
    rw [hc] at key2
    simp only [recoverD, hu0]
    exact key2
end
section
variable {P : Program} {N : Nat}
theorem jg {fn : Func} {e : Env} {R : AE → List Chunk → Prop} {g : FuncId} {cap args : List AV} {ds : List ADef} {u u1 : FrameMode} {A A1 B : List Chunk} {A2 : Nat → List Chunk} {v : AV} (is : List Nat) (hu : u ≠ .run) (hf : ∀ xs w, (callFunc g xs).run P w = .ok (.enter g xs) w)
    (p : fP A is = some (A1, B)) (h : ADCalls P g (args ++ cap) A1 u fun ae u' A' => ae = .ret v ∧ u' = u1 ∧ ∃ t, A' = A2 t) (k : ∀ t, ALeaves P fn N e R ds (settle u1) (A2 t ++ B)) :
    ALeaves P fn N e R (.call (.func g) cap args :: ds) u A := by
  refine ⟨hu, g, A1, B, rfl, hf, cw is _ _ _ p, fun F I w vs hI hv => ?_⟩;intro c cs hc;obtain ⟨en, u', w', fr, hq, h1, h2, h3⟩ := h F I w vs hI hv c cs hc;refine ⟨en, u', w', fr, ?_, h1, h2, h3⟩;obtain ⟨I', ae, A', E, hI', hre, rfl, rfl, t, rfl⟩ := hq;exact ⟨I', _, _, E, hI', hre, k t⟩
theorem ADCalls.grow {f : FuncId} {args : List AV} {A A2 : List Chunk} {u u1 : FrameMode} {v : AV} {A3 : Nat → List Chunk} {o : Nat} {cs : List AV} (i j k : Nat) (Ty : TypeId) (hA : A2[i]? = some (.obj o cs)) (hj : cs[j]? = some (.v (.slice none 0 0)))
    (hE : ∀ t, A3 t = .tok t Ty :: A2.set i (.obj o (cs.set j (.sl k [] (some t))))) (h : ADCalls P f args A u fun ae u' A' => ae = .ret v ∧ u' = u1 ∧ A' = A2) :
    ADCalls P f args A u fun ae u' A' => ae = .ret v ∧ u' = u1 ∧ ∃ t, A' = A3 t := fun F I w vs hI hv => by
  intro c cs0 hc;obtain ⟨en, u', w', fr, hq, h1, h2, h3⟩ := h F I w vs hI hv c cs0 hc;refine ⟨en, u', w', fr, ?_, h1, h2, h3⟩;obtain ⟨I', ae, A', E, hI', hre, rfl, rfl, rfl⟩ := hq;obtain ⟨t, I2, E2, hI2⟩ := Inv.nil_objAt hI' i j k Ty hA hj;exact ⟨I2, _, _, E.trans E2, by rw [hE t]; exact hI2, (by cases en <;> first | exact hre.mono E2 | exact hre), rfl, rfl, t, rfl⟩
end
end Go.Av
namespace Go.Proofs.YtgjkjkmmgdbcoaaGreatDoor
open Go.RowKit Go.Av Go.Pv
theorem lib_Trim (s c : List UInt8) (hs : s.length < 4294967281) (hc : c.length < 4294967281) (ha : oJ c = true) : ACalls Tryz.prog 46 [S s, S c] [] (Ret (S (Go.Lib.trimS s c)) []) := by
 refine em fun I A w vs hI hv => ?_
 obtain ⟨v1, r1, rfl, h1, hv⟩ := hv.out_cons;obtain ⟨v2, r2, rfl, h2, hv⟩ := hv.out_cons
 rw [hv.out_nil, jK h1, jK h2]
 refine (Tryz.strings_Trim_ascii ⟨s.toArray⟩ ⟨c.toArray⟩ w (by simp [ByteArray.size]; omega) (by simpa [ByteArray.size] using hc) (fun j b hj => asciiB_s ha j b (by simpa using hj))).mono fun e w' ⟨he, hb⟩ => ⟨by simpa using he, hb⟩
theorem jX (fn s : List UInt8) (base bits : Int) (hs : s.length < 4294967281) : ACalls Tryz.prog 71 [S fn, S s, i64 base, i64 bits, .ifc 126 (i64 2)] [] (Ret (.ifc 129 .any) []) := by
 refine ig fun I A w vs hI hv => ?_
 obtain ⟨v1, r1, rfl, h1, hv⟩ := hv.out_cons;obtain ⟨v2, r2, rfl, h2, hv⟩ := hv.out_cons;obtain ⟨v3, r3, rfl, h3, hv⟩ := hv.out_cons;obtain ⟨v4, r4, rfl, h4, hv⟩ := hv.out_cons;obtain ⟨v5, r5, rfl, h5, hv⟩ := hv.out_cons
 rw [hv.out_nil, jK h1, jK h2, bS h3, bS h4, jj h5]
 obtain ⟨ev, hc, hev⟩ := nq hI (g := 1) (r := []) rfl
 refine (Tryz.strconv_toError_syntax ⟨fn.toArray⟩ ⟨s.toArray⟩ base bits ev w (by simp [ByteArray.size]; omega) hc hev).mono fun e w' ⟨N, he, _, _, hb⟩ => ⟨_, he, fun _ _ => .ifc _ _ _ (.any _), hb⟩
theorem kj (fn s : List UInt8) (base bits : Int) (hs : s.length < 4294967281) : ACalls Tryz.prog 71 [S fn, S s, i64 base, i64 bits, .ifc 126 (i64 1)] [] (Ret (.ifc 129 .any) []) := by
 refine ig fun I A w vs hI hv => ?_
 obtain ⟨v1, r1, rfl, h1, hv⟩ := hv.out_cons;obtain ⟨v2, r2, rfl, h2, hv⟩ := hv.out_cons;obtain ⟨v3, r3, rfl, h3, hv⟩ := hv.out_cons;obtain ⟨v4, r4, rfl, h4, hv⟩ := hv.out_cons;obtain ⟨v5, r5, rfl, h5, hv⟩ := hv.out_cons
 rw [hv.out_nil, jK h1, jK h2, bS h3, bS h4, jj h5]
 obtain ⟨ev, hc, hev⟩ := nq hI (g := 2) (r := []) rfl
 refine (Tryz.strconv_toError_range ⟨fn.toArray⟩ ⟨s.toArray⟩ base bits ev w (by simp [ByteArray.size]; omega) hc hev).mono fun e w' ⟨N, he, _, _, hb⟩ => ⟨_, he, fun _ _ => .ifc _ _ _ (.any _), hb⟩
theorem oY (fn s : List UInt8) (base bits n : Int) (hs : s.length < 4294967281) (hn : n = 1 ∨ n = 2) : ACalls Tryz.prog 71 [S fn, S s, i64 base, i64 bits, fp 126 .i64 n] [] (Ret (.ifc 129 .any) []) := by
 rcases hn with rfl | rfl
 ·exact kj fn s base bits hs
 ·exact jX fn s base bits hs
theorem jY (a b : List UInt8) (t u : Option Nat) (hs : a.length < 4294967281) : ACalls Tryz.prog 53 [slE Enc.byte a t, slE Enc.byte b u] [] (Ret (B (Go.Lib.hasSuffix a b)) []) := by
 refine em fun I A w vs hI hv => ?_
 obtain ⟨v1, r1, rfl, h1, hv⟩ := hv.out_cons;obtain ⟨v2, r2, rfl, h2, hv⟩ := hv.out_cons;obtain rfl := hv.out_nil;obtain ⟨a1, c1, rfl, hc1, hb1, _⟩ := eb h1;obtain ⟨a2, c2, rfl, hc2, hb2, _⟩ := eb h2
 refine (Tryz.bytes_HasSuffix_all a1 a2 a.length c1 b.length c2 _ _ w (Go.Lib.numsL_length _) (Go.Lib.numsL_length _) hc1 (by omega) hb1 hb2).mono fun e w' ⟨he, hw⟩ => ⟨?_, hw ▸ Below.refl _ _⟩
 rw [he, Go.Lib.bytesOf_numsL, Go.Lib.bytesOf_numsL]
theorem jd (a b : List UInt8) (t u : Option Nat) (hs : a.length < 4294967281) (h2 : 2 ≤ b.length) (hb : b.length < 4294967281) : ACalls Tryz.prog 61 [slE Enc.byte a t, slE Enc.byte b u] [] (Ret (i64 (Go.Lib.index a b)) []) := by
 refine em fun I A w vs hI hv => ?_
 obtain ⟨v1, r1, rfl, h1, hv⟩ := hv.out_cons;obtain ⟨v2, r2, rfl, h2', hv⟩ := hv.out_cons;obtain rfl := hv.out_nil;obtain ⟨a1, c1, rfl, hc1, hb1, hx1⟩ := eb h1;obtain ⟨a2, c2, rfl, hc2, hb2, hx2⟩ := eb h2'
 by_cases hlt : a.length < b.length
 ·refine (Tryz.bytes_Index_longer a1 a2 a.length c1 b.length c2 w h2 hlt (by omega)).mono fun e w' ⟨he, hw⟩ => ⟨?_, hw ▸ Below.refl _ _⟩
  rw [he, Go.Lib.index_long (Nat.le_of_lt hlt) (fun e => by rw [e] at hlt; exact Nat.lt_irrefl _ hlt)]
 ·obtain ⟨m, hm⟩ := lc hI (g := 0) (k := .i64) (r := []) rfl;obtain ⟨b1, o1, rfl, g1⟩ := hx1 (by intro e; rw [e] at hlt; simp at hlt; rw [hlt] at h2; simp at h2);obtain ⟨b2, o2, rfl, g2⟩ := hx2 (by intro e; rw [e] at h2; simp at h2)
  refine (Tryz.bytes_Index_at ⟨b1, o1, none⟩ ⟨b2, o2, none⟩ a.length c1 b.length c2 _ _ m w (Go.Lib.numsL_length _) (Go.Lib.numsL_length _) (Go.Lib.numsL_range _) (Go.Lib.numsL_range _) (fun i hi => by rw [cG]; exact g1 i hi) (fun i hi => by rw [cG]; exact g2 i hi) hc1 hs (by omega) hm).mono fun e w' ⟨he, q, hw⟩ => ⟨?_, hw ▸ Below.drewN _ _⟩
  rw [he, Go.Lib.bytesOf_numsL, Go.Lib.bytesOf_numsL]
theorem je (a : List UInt8) (t : Option Nat) (hs : a.length < 4294967281) : ACalls Tryz.prog 30 [slE Enc.byte a t] [] (Ret (slE Enc.byte a none) []) := fun F I w vs hI hv => by
 obtain ⟨v1, r1, rfl, h1, hv⟩ := hv.out_cons;obtain rfl := hv.out_nil;obtain ⟨a1, c1, rfl, hc1, hb1, hx1⟩ := eb h1
 cases a1 with
 | none =>
  have : a = [] := by
   by_cases hne : a = []
   ·exact hne
   ·obtain ⟨_, _, h, _⟩ := hx1 hne; cases h
  subst this
  refine (Tryz.bytes_Clone_nil 0 c1 w).mono fun e w' ⟨he, hw⟩ => ?_
  subst he; subst hw
  exact ⟨I, .ret _, [], bI _ _, hI, .slz _ _ _, rfl, rfl⟩
 | some ad =>
  refine (Tryz.bytes_Clone_at ad a.length c1 (Go.Lib.numsL a) w (Go.Lib.numsL_length _) (by omega) (fun i hi => ?_)).mono fun e w' ⟨v', he, how, _, hb⟩ => ?_
  ·obtain ⟨b, o, h, hc⟩ := hx1 (by intro e; rw [e] at hi; simp at hi)
   cases h
   rw [cG]; exact hc i hi
  ·subst he;obtain ⟨I', X, hI', hr⟩ := pO hI hb how;exact ⟨I', .ret _, [], X, hI', hr, rfl, rfl⟩
theorem oZ (n : Int) (h : -9223372036854775808 ≤ n ∧ n ≤ 9223372036854775807) : ACalls Tryz.prog 108 [i64 n] [] (Ret (S (Go.Lib.itoa n)) []) := by
 refine em fun I A w vs hI hv => ?_
 obtain ⟨v1, r1, rfl, h1, hv⟩ := hv.out_cons
 rw [hv.out_nil, bS h1]
 have ht : Go.Lib.TabIs Tryz.prog w "internal/strconv.uint64pow10" .u64 Go.Lib.pow10Tab := tabIs_of hI (g := 5) (by kernel_rfl) (by simp [G, Go.Lib.pow10Tab])
 refine (Tryz.strconv_Itoa n h.1 h.2 w ht).mono fun e w' ⟨he, k, os, hw⟩ => ⟨by simpa using he, ?_⟩
 rw [hw]; exact Go.Lib.below_grow _ w (Nat.le_refl _) k os
theorem bA (a : List UInt8) (t : Option Nat) (hs : a.length < 4294967281) : ACalls Tryz.prog 30 [slE Enc.byte a t] [] (fun e A' => ∃ t', e = .ret (slE Enc.byte a (some t')) ∧ A' = [.tok t' 5]) := fun F I w vs hI hv => by
 obtain ⟨v1, r1, rfl, h1, hv⟩ := hv.out_cons;obtain rfl := hv.out_nil;obtain ⟨a1, c1, rfl, hc1, hb1, hx1⟩ := eb h1
 cases a1 with
 | none =>
  have : a = [] := by
   by_cases hne : a = []
   ·exact hne
   ·obtain ⟨_, _, h, _⟩ := hx1 hne; cases h
  subst this
  refine (Tryz.bytes_Clone_nil 0 c1 w).mono fun e w' ⟨he, hw⟩ => ?_
  subst he; subst hw
  obtain ⟨t', ht⟩ := hI.fresh_tok;obtain ⟨E, hI2⟩ := hI.nil_tok ht 5;exact ⟨_, .ret _, [.tok t' 5], E, hI2, .slnil _ _ (by simp [Info.nilTok]), t', rfl, rfl⟩
 | some ad =>
  refine (Tryz.bytes_Clone_at ad a.length c1 (Go.Lib.numsL a) w (Go.Lib.numsL_length _) (by omega) (fun i hi => ?_)).mono fun e w' ⟨v', he, how, _, hb⟩ => ?_
  ·obtain ⟨b, o, h, hc⟩ := hx1 (by intro e; rw [e] at hi; simp at hi)
   cases h
   rw [cG]; exact hc i hi
  ·subst he;obtain ⟨t', I', X, hI', hr⟩ := oT hI hb how;exact ⟨I', .ret _, [.tok t' 5], X, hI', hr, t', rfl, rfl⟩
end Go.Proofs.YtgjkjkmmgdbcoaaGreatDoor
namespace Go.Pv
def bndo {γ : Type} : Option Bool → Option γ → (Bool → Option γ) → Option γ
  | none, a, _ => a
  | some b, _, k => k b
theorem bndo_s {γ : Type} {o : Option Bool} {a : Option γ} {k : Bool → Option γ} {v : γ} (h : bndo o a k = some v) : (o = none ∧ a = some v) ∨ ∃ b, o = some b ∧ k b = some v := by
  cases o with
  | none => exact .inl ⟨rfl, h⟩
  | some b => exact .inr ⟨b, rfl, h⟩
end Go.Pv
namespace Go.Pv
def eA (F : Nat) (a1 : UInt8) : Option UInt8 :=
some (a1 ||| 32)
def dY (y84 : Int) : Option Bool :=
some (!decide (y84 = 95))
def cO (y50 : Int) (rec51 : (Int × Int) → Option Bool) (y81 : Int) : Option Bool :=
grd (okI (y50 + 1)) <|
rec51 (y81, y50 + 1)
def fh (F : Nat) (y15 : List UInt8) (y47 : Bool) (rec51 : (Int × Int) → Option Bool) (y49 : Int) (y50 : Int) : Option Bool :=
bif decide (y50 < (y15.length : Int)) then
  grd (cA y50 y15.length) <|
  lt (at_ y15 y50) fun x55 =>
  dT (decide (48 ≤ (x55.toNat : Int))) (cA y50 y15.length) <|
  lt (at_ y15 y50) fun x59 =>
  dT ((!((decide (48 ≤ (x55.toNat : Int))) && (decide ((x59.toNat : Int) ≤ 57)))) && y47) (cA y50 y15.length) <|
  lt (at_ y15 y50) fun x64 =>
  js ((!((decide (48 ≤ (x55.toNat : Int))) && (decide ((x59.toNat : Int) ≤ 57)))) && y47) (eA F x64) fun x66 =>
  dT ((!((decide (48 ≤ (x55.toNat : Int))) && (decide ((x59.toNat : Int) ≤ 57)))) && (y47 && (decide (97 ≤ (x66.toNat : Int))))) (cA y50 y15.length) <|
  lt (at_ y15 y50) fun x70 =>
  js ((!((decide (48 ≤ (x55.toNat : Int))) && (decide ((x59.toNat : Int) ≤ 57)))) && (y47 && (decide (97 ≤ (x66.toNat : Int))))) (eA F x70) fun x72 =>
  bif ((decide (48 ≤ (x55.toNat : Int))) && (decide ((x59.toNat : Int) ≤ 57))) || ((y47 && (decide (97 ≤ (x66.toNat : Int)))) && (decide ((x72.toNat : Int) ≤ 102))) then
    cO y50 rec51 48
  else
    grd (cA y50 y15.length) <|
    lt (at_ y15 y50) fun x76 =>
    bif decide (x76 = 95) then
      bif !decide (y49 = 48) then
        some false
      else
        cO y50 rec51 95
    else
      bif decide (y49 = 95) then
        some false
      else
        cO y50 rec51 33
else
  dY y49
def dt (F : Nat) (y15 : List UInt8) (y47 : Bool) (n : Nat) : (Int × Int) → Option Bool :=
  loop (fun rec x => fh F y15 y47 rec x.1 x.2) n
def dr (F : Nat) (y15 : List UInt8) (y45 : Int) (y46 : Int) (y47 : Bool) : Option Bool :=
dt F y15 y47 F (y45, y46)
def dq (F : Nat) (y15 : List UInt8) : Option Bool :=
dT (decide (2 ≤ (y15.length : Int))) (cA 0 y15.length) <|
lt (at_ y15 0) fun x19 =>
dT ((decide (2 ≤ (y15.length : Int))) && (decide (x19 = 48))) (cA 1 y15.length) <|
lt (at_ y15 1) fun x23 =>
js ((decide (2 ≤ (y15.length : Int))) && (decide (x19 = 48))) (eA F x23) fun x25 =>
dT (((decide (2 ≤ (y15.length : Int))) && (decide (x19 = 48))) && (!(decide (x25 = 98)))) (cA 1 y15.length) <|
lt (at_ y15 1) fun x29 =>
js (((decide (2 ≤ (y15.length : Int))) && (decide (x19 = 48))) && (!(decide (x25 = 98)))) (eA F x29) fun x31 =>
dT (((decide (2 ≤ (y15.length : Int))) && (decide (x19 = 48))) && (!((decide (x25 = 98)) || (decide (x31 = 111))))) (cA 1 y15.length) <|
lt (at_ y15 1) fun x35 =>
js (((decide (2 ≤ (y15.length : Int))) && (decide (x19 = 48))) && (!((decide (x25 = 98)) || (decide (x31 = 111))))) (eA F x35) fun x37 =>
bif ((decide (2 ≤ (y15.length : Int))) && (decide (x19 = 48))) && (((decide (x25 = 98)) || (decide (x31 = 111))) || (decide (x37 = 120))) then
  grd (cA 1 y15.length) <|
  lt (at_ y15 1) fun x41 =>
  bnd (eA F x41) fun x43 =>
  dr F y15 48 2 (decide (x43 = 120))
else
  dr F y15 94 0 false
def gw (F : Nat) (a1 : List UInt8) : Option Bool :=
dT (decide (1 ≤ (a1.length : Int))) (cA 0 a1.length) <|
lt (at_ a1 0) fun x5 =>
dT ((decide (1 ≤ (a1.length : Int))) && (!(decide (x5 = 45)))) (cA 0 a1.length) <|
lt (at_ a1 0) fun x9 =>
bif (decide (1 ≤ (a1.length : Int))) && ((decide (x5 = 45)) || (decide (x9 = 43))) then
  grd (iW 1 a1.length) <|
  lt (gr a1 1) fun x13 =>
  dq F x13
else
  dq F a1
def ek (F : Nat) (a1 : List UInt8) (y53 : Bool) (y54 : Int) : Option (Int × Int) :=
js y53 (gw F a1) fun x57 =>
bif y53 && (!x57) then
  some (0, 2)
else
  some (y54, 0)
def dy (y24 : Int) (rec25 : (Bool × Int × Int) → Option (Int × Int)) (y49 : Bool) (y50 : Int) : Option (Int × Int) :=
grd (okI (y24 + 1)) <|
rec25 (y49, y50, y24 + 1)
def dh (a2 : Int) (y17 : Int) (y22 : Bool) (y23 : Int) (y24 : Int) (rec25 : (Bool × Int × Int) → Option (Int × Int)) (y43 : UInt8) : Option (Int × Int) :=
bif decide (((Go.Av.toB a2).toNat : Int) ≤ (y43.toNat : Int)) then
  some (0, 2)
else
  bif decide (y17 ≤ y23) then
    some (IntKind.u64.wrap ((IntKind.u64.wrap (1 * 2 ^ min (Int.toNat (IntKind.u64.wrap 64)) IntKind.u64.bits)) - 1), 1)
  else
    bif (decide (IntKind.u64.wrap ((IntKind.u64.wrap (y23 * (IntKind.u64.wrap a2))) + (IntKind.u64.wrap (y43.toNat : Int))) < IntKind.u64.wrap (y23 * (IntKind.u64.wrap a2)))) || (decide (IntKind.u64.wrap ((IntKind.u64.wrap (1 * 2 ^ min (Int.toNat (IntKind.u64.wrap 64)) IntKind.u64.bits)) - 1) < IntKind.u64.wrap ((IntKind.u64.wrap (y23 * (IntKind.u64.wrap a2))) + (IntKind.u64.wrap (y43.toNat : Int))))) then
      some (IntKind.u64.wrap ((IntKind.u64.wrap (1 * 2 ^ min (Int.toNat (IntKind.u64.wrap 64)) IntKind.u64.bits)) - 1), 1)
    else
      dy y24 rec25 y22 (IntKind.u64.wrap ((IntKind.u64.wrap (y23 * (IntKind.u64.wrap a2))) + (IntKind.u64.wrap (y43.toNat : Int))))
def el (F : Nat) (a1 : List UInt8) (a2 : Int) (y17 : Int) (rec25 : (Bool × Int × Int) → Option (Int × Int)) (y22 : Bool) (y23 : Int) (y24 : Int) : Option (Int × Int) :=
bif decide (y24 < (a1.length : Int)) then
  grd (cA y24 a1.length) <|
  lt (at_ a1 y24) fun x29 =>
  bif (decide (x29 = 95)) && (decide (a2 = 0)) then
    dy y24 rec25 true y23
  else
    bif (decide (48 ≤ (x29.toNat : Int))) && (decide ((x29.toNat : Int) ≤ 57)) then
      dh a2 y17 y22 y23 y24 rec25 (x29 - 48)
    else
      bnd (eA F x29) fun x35 =>
      js (decide (97 ≤ (x35.toNat : Int))) (eA F x29) fun x38 =>
      bif (decide (97 ≤ (x35.toNat : Int))) && (decide ((x38.toNat : Int) ≤ 122)) then
        bnd (eA F x29) fun x41 =>
        dh a2 y17 y22 y23 y24 rec25 ((x41 - 97) + 10)
      else
        some (0, 2)
else
  ek F a1 y22 y23
def cm (F : Nat) (a1 : List UInt8) (a2 : Int) (y17 : Int) (n : Nat) : (Bool × Int × Int) → Option (Int × Int) :=
  loop (fun rec x => el F a1 a2 y17 rec x.1 x.2.1 x.2.2) n
def dg (F : Nat) (a1 : List UInt8) (a2 : Int) (y17 : Int) : Option (Int × Int) :=
grd (decide (0 ≤ IntKind.u64.wrap 64)) <|
grd (eW a1.length) <|
cm F a1 a2 y17 F (false, 0, 0)
def ej (F : Nat) (a1 : List UInt8) (a2 : Int) : Option (Int × Int) :=
bif decide (a2 = 10) then
  dg F a1 a2 1844674407370955162
else
  bif decide (a2 = 16) then
    dg F a1 a2 1152921504606846976
  else
    grd (decide (IntKind.u64.wrap a2 ≠ 0)) <|
    dg F a1 a2 (IntKind.u64.wrap ((IntKind.u64.wrap (Int.tdiv 18446744073709551615 (IntKind.u64.wrap a2))) + 1))
def ei (F : Nat) (a1 : List UInt8) (a2 : Int) (a3 : Int) : Option (Int × Int) :=
grd (decide (a3 = 0)) <|
ej F a1 a2
def fJ (F : Nat) (a1 : List UInt8) (a2 : Int) (a3 : Int) : Option (Int × Int) :=
bif decide (a1 = ([] : List UInt8)) then
  some (0, 2)
else
  grd ((decide (2 ≤ a2)) && (decide (a2 ≤ 36))) <|
  ei F a1 a2 a3
def dA (y35 : Int) : Option (Int × Int) :=
some (y35, 0)
def dz (y19 : Bool) (x21 : Int) : Option (Int × Int) :=
grd (decide (0 ≤ IntKind.u64.wrap 63)) <|
bif (!y19) && (decide (IntKind.u64.wrap (1 * 2 ^ min (Int.toNat (IntKind.u64.wrap 63)) IntKind.u64.bits) ≤ x21)) then
  some (IntKind.i64.wrap (IntKind.u64.wrap ((IntKind.u64.wrap (1 * 2 ^ min (Int.toNat (IntKind.u64.wrap 63)) IntKind.u64.bits)) - 1)), 1)
else
  bif y19 && (decide (IntKind.u64.wrap (1 * 2 ^ min (Int.toNat (IntKind.u64.wrap 63)) IntKind.u64.bits) < x21)) then
    some (IntKind.i64.wrap (0 - (IntKind.i64.wrap (IntKind.u64.wrap (1 * 2 ^ min (Int.toNat (IntKind.u64.wrap 63)) IntKind.u64.bits)))), 1)
  else
    bif y19 then
      dA (IntKind.i64.wrap (0 - (IntKind.i64.wrap x21)))
    else
      dA (IntKind.i64.wrap x21)
def cL (F : Nat) (a2 : Int) (a3 : Int) (y18 : List UInt8) (y19 : Bool) : Option (Int × Int) :=
hP (fJ F y18 a2 a3) fun x21 x22 =>
bif (!decide (x22 = 0)) && (!decide (x22 = 1)) then
  some (0, x22)
else
  grd (decide (a3 = 0)) <|
  dz y19 x21
def fK (F : Nat) (a1 : List UInt8) (a2 : Int) (a3 : Int) : Option (Int × Int) :=
bif decide (a1 = ([] : List UInt8)) then
  some (0, 2)
else
  grd (cA 0 a1.length) <|
  lt (at_ a1 0) fun x8 =>
  bif decide (x8 = 43) then
    grd (iW 1 a1.length) <|
    lt (gr a1 1) fun x12 =>
    cL F a2 a3 x12 false
  else
    bif decide (x8 = 45) then
      grd (iW 1 a1.length) <|
      lt (gr a1 1) fun x16 =>
      cL F a2 a3 x16 true
    else
      cL F a2 a3 a1 false
def gL (F : Nat) (a1 : List UInt8) : Option (Int × Int) :=
hP (fK F a1 10 0) fun x44 x45 =>
some (x44, x45)
def eO (y41 : Int) : Option (Int × Int) :=
some (y41, 0)
def eN (a1 : List UInt8) (y34 : Int) : Option (Int × Int) :=
grd (cA 0 a1.length) <|
lt (at_ a1 0) fun x37 =>
bif decide (x37 = 45) then
  grd (okI (0 - y34)) <|
  eO (0 - y34)
else
  eO y34
def ft (a1 : List UInt8) (y18 : List UInt8) (rec24 : (Int × Int) → Option (Int × Int)) (y22 : Int) (y23 : Int) : Option (Int × Int) :=
bif decide (y23 < (y18.length : Int)) then
  grd (cA y23 y18.length) <|
  lt (at_ y18 y23) fun x28 =>
  bif decide (9 < ((x28 - 48).toNat : Int)) then
    some (0, 2)
  else
    grd (okI (y22 * 10)) <|
    grd (okI ((y22 * 10) + ((x28 - 48).toNat : Int))) <|
    grd (okI (y23 + 1)) <|
    rec24 ((y22 * 10) + ((x28 - 48).toNat : Int), y23 + 1)
else
  eN a1 y22
def fq (a1 : List UInt8) (y18 : List UInt8) (n : Nat) : (Int × Int) → Option (Int × Int) :=
  loop (fun rec x => ft a1 y18 rec x.1 x.2) n
def eM (F : Nat) (a1 : List UInt8) (y18 : List UInt8) : Option (Int × Int) :=
grd (eW y18.length) <|
fq a1 y18 F (0, 0)
def gG (F : Nat) (a1 : List UInt8) : Option (Int × Int) :=
bif (decide (0 < (a1.length : Int))) && (decide ((a1.length : Int) < 19)) then
  grd (cA 0 a1.length) <|
  lt (at_ a1 0) fun x7 =>
  dT (!(decide (x7 = 45))) (cA 0 a1.length) <|
  lt (at_ a1 0) fun x11 =>
  bif (decide (x7 = 45)) || (decide (x11 = 43)) then
    grd (iW 1 a1.length) <|
    lt (gr a1 1) fun x15 =>
    bif decide ((x15.length : Int) < 1) then
      some (0, 2)
    else
      eM F a1 x15
  else
    eM F a1 a1
else
  gL F a1
def cT (F : Nat) (a1 : List UInt8) : Option (Int × Int) :=
hP (gG F a1) fun x4 x5 =>
bif !decide (x5 = 0) then
  grd (okS a1.length) <|
  grd (decide (x5 = 1 ∨ x5 = 2)) <|
  some (x4, 1)
else
  some (x4, 0)
end Go.Pv
