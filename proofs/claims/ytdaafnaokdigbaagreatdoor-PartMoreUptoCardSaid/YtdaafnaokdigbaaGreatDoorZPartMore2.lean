/-
  Texts in one (only what PartMore needs): P11Build, P11Join, AvLaw, P11Split, AvN, AvOwn, AvDefer, AvFn, AvCard, AvPan, AvArr, AvStill, AvLoop, AvFor, PvSl, AvHd, AvSl, AvBig, AvTab, LibSW, QpP.
-/
import Derived.Test.YtdaafnaokdigbaaGreatDoorZPartMore1
import Derived.Below
import Derived.Lib.SplitLaws
import Derived.Recover
import Derived.ProofKit
import Derived.HandedShaped
import Derived.Shelf.Vars
import Derived.LaidLaws
import Derived.LaidMore
import Derived.Stop.Joined
import Derived.MakeChecks
import Derived.LoopNIn
import Derived.Laws.MakeOwn
import Derived.RangeFuncLeaves
import Derived.RangeFuncRecord
import Derived.Lib.FieldsP
import Derived.Laws.StructEq
import Derived.Lib.SlFresh
import Derived.Lib.SlParts
import Derived.Shelf.Bytes.SlSmallAll
import Derived.Shelf.Strings.FuncGrows
import Derived.Lib.LaidTab
import Derived.Lib.ItoaNum
import Derived.Lib.AppendIntMem
import Derived.Test.YtdaafnaokdigbaaGreatDoorShelf
import Derived.Test.YtdaafnaokdigbaaGreatDoorChecked
import Derived.Lib.IndexLaws
set_option linter.unusedVariables false
set_option linter.unusedSimpArgs false
namespace Go.Proofs.YtdaafnaokdigbaaGreatDoor
open Go.RowKit Go.Av
theorem en143 : ∀ (args : Array Value) (w : World), (callFunc 143 args).run Tryz.prog w = .ok (.enter 143 args) w := fun _ _ => by kernel_rfl
theorem en127 : ∀ (args : Array Value) (w : World), (callFunc 127 args).run Tryz.prog w = .ok (.enter 127 args) w := fun _ _ => by kernel_rfl
theorem en128 : ∀ (args : Array Value) (w : World), (callFunc 128 args).run Tryz.prog w = .ok (.enter 128 args) w := fun _ _ => by kernel_rfl
theorem en142 : ∀ (args : Array Value) (w : World), (callFunc 142 args).run Tryz.prog w = .ok (.enter 142 args) w := fun _ _ => by kernel_rfl
theorem en149 : ∀ (args : Array Value) (w : World), (callFunc 149 args).run Tryz.prog w = .ok (.enter 149 args) w := fun _ _ => by kernel_rfl
abbrev _root_.Go.Av.aV := @Tryz.underlying140
set_option maxRecDepth 100000 in
set_option maxHeartbeats 1000000 in
theorem jp (o : Nat) (b : AV) :
    ACalls Tryz.prog 143 [.pt o 0] [.obj o [.v (.pointer none), b], .ty o 142] (Ret (.tup []) [.obj o [.pt o 0, b], .ty o 142]) := by
  refine ax Tryz.func143 rfl rfl ?_;show AW _ _ 20 _ _ _;refine ah <| ab ?_;show AR _ _ _ _ _ [0, 1, 2, 3, 4] _;refine am rfl rfl ?_
  first | (refine al rfl rfl (ac (av := .pt _ _) rfl) ?_) | (refine al rfl rfl (ac (av := .cp _) rfl) ?_) | (refine al rfl rfl (ac (av := .v _) rfl) ?_)
  refine am rfl rfl ?_
  first | (refine al rfl rfl (az rfl) ?_) | (refine al rfl rfl (aX rfl) ?_) | (refine al rfl rfl (aW rfl) ?_)
  refine am rfl rfl <| al rfl rfl (au (n := 0) (by kernel_rfl) rfl) <| am rfl rfl ?_
  first | refine al rfl rfl (aU aV rfl rfl) ?_ | refine bS rfl rfl (ak (i := 0) aV rfl rfl rfl rfl) ?_ | refine bS rfl rfl (ak (i := 1) aV rfl rfl rfl rfl) ?_
  refine am rfl rfl ?_
  first | (refine al rfl rfl (jV aV rfl rfl) ?_) | (refine al rfl rfl (jC aV rfl rfl) ?_)
  refine ai <| aH rfl (fun c1 => ?_) (fun c1 => ?_)
  · have c1p := c1; try simp only [decide_eq_true_eq, decide_eq_false_iff_not, Bool.not_eq_true', Bool.not_eq_false', Bool.not_true, Bool.not_false, Bool.not_eq_eq_eq_not] at c1p
    refine ab ?_;show AR _ _ _ _ _ [0, 1, 2, 3, 4, 5, 6, 7] _;refine am rfl rfl ?_
    first | (refine al rfl rfl (ac (av := .pt _ _) rfl) ?_) | (refine al rfl rfl (ac (av := .cp _) rfl) ?_) | (refine al rfl rfl (ac (av := .v _) rfl) ?_)
    refine am rfl rfl ?_
    first | (refine al rfl rfl (ac (av := .pt _ _) rfl) ?_) | (refine al rfl rfl (ac (av := .cp _) rfl) ?_) | (refine al rfl rfl (ac (av := .v _) rfl) ?_)
    refine am rfl rfl ?_
    first | (refine bS rfl rfl (jD (i := 0) (k := 2) aV Tryz.underlying169 (by kernel_rfl) (by decide) rfl rfl ?h1) ?_; (case h1 => (simp))) | (refine bS rfl rfl (jD (i := 1) (k := 2) aV Tryz.underlying169 (by kernel_rfl) (by decide) rfl rfl ?h2) ?_; (case h2 => (simp)))
    refine am rfl rfl <| al rfl rfl (nW (a := .pt _ _) Tryz.func150 ⟨by kernel_rfl, by kernel_rfl, by kernel_rfl, by kernel_rfl⟩ rfl) <| am rfl rfl ?_
    first | refine bS rfl rfl (iJ (i := 0) (j := 1) (k := 2) Tryz.underlying169 aV (by kernel_rfl) rfl rfl rfl (by kernel_rfl)) ?_ | refine bS rfl rfl (iJ (i := 1) (j := 0) (k := 2) Tryz.underlying169 aV (by kernel_rfl) rfl rfl rfl (by kernel_rfl)) ?_
    refine am rfl rfl ?_
    first | (refine al rfl rfl (az rfl) ?_) | (refine al rfl rfl (aX rfl) ?_) | (refine al rfl rfl (aW rfl) ?_)
    refine am rfl rfl <| al rfl rfl (au (n := 0) (by kernel_rfl) rfl) <| am rfl rfl ?_
    first | (refine bU rfl (an (i := 0) (c := .pt _ _) (by kernel_rfl) rfl rfl rfl rfl ?h4) ?_; (case h4 => (simp))) | (refine bU rfl (an (i := 0) (c := .cp _) (by kernel_rfl) rfl rfl rfl rfl ?h5) ?_; (case h5 => (simp))) | (refine bU rfl (an (i := 0) (c := .v _) (by kernel_rfl) rfl rfl rfl rfl ?h6) ?_; (case h6 => (simp))) | (refine bU rfl (an (i := 1) (c := .pt _ _) (by kernel_rfl) rfl rfl rfl rfl ?h7) ?_; (case h7 => (simp))) | (refine bU rfl (an (i := 1) (c := .cp _) (by kernel_rfl) rfl rfl rfl rfl ?h8) ?_; (case h8 => (simp))) | (refine bU rfl (an (i := 1) (c := .v _) (by kernel_rfl) rfl rfl rfl rfl ?h9) ?_; (case h9 => (simp)))
    refine ai ?_
    -- END 1 (end)
    show cl _ _ _ _ .normal _
    (refine ⟨rfl, _, _, cG rfl, ?_, ⟨rfl, rfl⟩⟩; all_goals first | exact be _ | exact bW _ | ((repeat (first | exact be _ | exact bW _ | refine cR _ ?_ | refine cQ _ ?_)); done) | exact Wv.refl _ | exact Wv.tok _ _ _ | exact Wv.nil _)
  · exact absurd c1 (by decide)
set_option maxRecDepth 100000 in
set_option maxHeartbeats 1000000 in
theorem jo (o : Nat) (b : AV) :
    ACalls Tryz.prog 143 [.pt o 0] [.obj o [.pt o 0, b], .ty o 142] (Ret (.tup []) [.obj o [.pt o 0, b], .ty o 142]) := by
  refine ax Tryz.func143 rfl rfl ?_;show AW _ _ 20 _ _ _;refine ah <| ab ?_;show AR _ _ _ _ _ [0, 1, 2, 3, 4] _;refine am rfl rfl ?_
  first | (refine al rfl rfl (ac (av := .pt _ _) rfl) ?_) | (refine al rfl rfl (ac (av := .cp _) rfl) ?_) | (refine al rfl rfl (ac (av := .v _) rfl) ?_)
  refine am rfl rfl ?_
  first | (refine al rfl rfl (az rfl) ?_) | (refine al rfl rfl (aX rfl) ?_) | (refine al rfl rfl (aW rfl) ?_)
  refine am rfl rfl <| al rfl rfl (au (n := 0) (by kernel_rfl) rfl) <| am rfl rfl ?_
  first | refine al rfl rfl (aU aV rfl rfl) ?_ | refine bS rfl rfl (ak (i := 0) aV rfl rfl rfl rfl) ?_ | refine bS rfl rfl (ak (i := 1) aV rfl rfl rfl rfl) ?_
  refine am rfl rfl ?_
  first | (refine al rfl rfl (jV aV rfl rfl) ?_) | (refine al rfl rfl (jC aV rfl rfl) ?_)
  refine ai <| aH rfl (fun c1 => ?_) (fun c1 => ?_)
  · exact absurd c1 (by decide)
  · have c1p := c1; try simp only [decide_eq_true_eq, decide_eq_false_iff_not, Bool.not_eq_true', Bool.not_eq_false', Bool.not_true, Bool.not_false, Bool.not_eq_eq_eq_not] at c1p
    refine ah <| ab ?_;show AR _ _ _ _ _ [0, 1, 2, 3, 4, 5] _;refine am rfl rfl ?_
    first | (refine al rfl rfl (ac (av := .pt _ _) rfl) ?_) | (refine al rfl rfl (ac (av := .cp _) rfl) ?_) | (refine al rfl rfl (ac (av := .v _) rfl) ?_)
    refine am rfl rfl ?_
    first | (refine al rfl rfl (az rfl) ?_) | (refine al rfl rfl (aX rfl) ?_) | (refine al rfl rfl (aW rfl) ?_)
    refine am rfl rfl <| al rfl rfl (au (n := 0) (by kernel_rfl) rfl) <| am rfl rfl ?_
    first | refine al rfl rfl (aU aV rfl rfl) ?_ | refine bS rfl rfl (ak (i := 0) aV rfl rfl rfl rfl) ?_ | refine bS rfl rfl (ak (i := 1) aV rfl rfl rfl rfl) ?_
    refine am rfl rfl ?_
    first | (refine al rfl rfl (ac (av := .pt _ _) rfl) ?_) | (refine al rfl rfl (ac (av := .cp _) rfl) ?_) | (refine al rfl rfl (ac (av := .v _) rfl) ?_)
    refine am rfl rfl ?_
    first | (refine al rfl rfl (nh aV rfl rfl) ?_) | (refine al rfl rfl (mq aV rfl rfl) ?_) | (refine al rfl rfl (nX (k := 2) aV (by kernel_rfl) (by decide) rfl rfl) ?_)
    refine ai <| aH rfl (fun c2 => ?_) (fun c2 => ?_)
    · have c2p := c2; try simp only [decide_eq_true_eq, decide_eq_false_iff_not, Bool.not_eq_true', Bool.not_eq_false', Bool.not_true, Bool.not_false, Bool.not_eq_eq_eq_not] at c2p
      exfalso; first | omega | simp_all
    · have c2p := c2; try simp only [decide_eq_true_eq, decide_eq_false_iff_not, Bool.not_eq_true', Bool.not_eq_false', Bool.not_true, Bool.not_false, Bool.not_eq_eq_eq_not] at c2p
      refine aJ ?_
      -- END 1 (end)
      show cl _ _ _ _ .normal _
      (refine ⟨rfl, _, _, cG rfl, ?_, ⟨rfl, rfl⟩⟩; all_goals first | exact be _ | exact bW _ | ((repeat (first | exact be _ | exact bW _ | refine cR _ ?_ | refine cQ _ ?_)); done) | exact Wv.refl _ | exact Wv.tok _ _ _ | exact Wv.nil _)
theorem dh (o : Nat) (a b : AV) (ha : a = .v (.pointer none) ∨ a = .pt o 0) : ACalls Tryz.prog 143 [.pt o 0] [.obj o [a, b], .ty o 142] (Ret (.tup []) [.obj o [.pt o 0, b], .ty o 142]) := by
  rcases ha with rfl | rfl
  · exact jp  o b
  · exact jo  o b
abbrev _root_.Go.Av.aa := @Tryz.underlying26
abbrev _root_.Go.Av.af := @Tryz.underlying9
set_option maxRecDepth 100000 in
set_option maxHeartbeats 1000000 in
theorem cN (o : Nat) (a : AV) (ha : a = .v (.pointer none) ∨ a = .pt o 0) (l s : List UInt8) (t : Nat) (hl : l.length + s.length ≤ 1000000000) :
    ACalls Tryz.prog 127 [.pt o 0, S s] [.obj o [a, slE Enc.byte l (some t)], .ty o 142, .tok t 5] (fun e A' => e = .ret (.tup [i64 s.length, .v .nilIface]) ∧ ∃ t', A' = [.obj o [.pt o 0, slE Enc.byte (l ++ s) (some t')], .ty o 142, .tok t' 5]) := by
  refine ax Tryz.func127 rfl rfl ?_;show AW _ _ 19 _ _ _;refine ah <| ab ?_;show AR _ _ _ _ _ [0, 1] _;refine am rfl rfl <| al rfl rfl (ao (av := .v _) rfl) <| am rfl rfl <| al rfl rfl (ao (av := .v _) rfl) <| ai <| ah <| ab ?_;show AR _ _ _ _ _ [0, 1] _;refine am rfl rfl ?_
  first | (refine al rfl rfl (ac (av := .pt _ _) rfl) ?_) | (refine al rfl rfl (ac (av := .cp _) rfl) ?_) | (refine al rfl rfl (ac (av := .v _) rfl) ?_)
  refine am rfl rfl <| AO.call [.tok t 5] rfl en143 rfl (dh  o a (slE Enc.byte l (some t)) ha) ?p1 ?k1 ?q1
  (case p1 => (exact bo _))
  (case q1 => (rintro c A' ⟨h, _⟩; cases h))
  rintro av A' ⟨h, rfl⟩; cases h
  refine ai <| ah <| ab ?_;show AR _ _ _ _ _ [0, 1, 2, 3, 4, 5, 6, 7, 8, 9] _;refine am rfl rfl ?_
  first | (refine al rfl rfl (ac (av := .pt _ _) rfl) ?_) | (refine al rfl rfl (ac (av := .cp _) rfl) ?_) | (refine al rfl rfl (ac (av := .v _) rfl) ?_)
  refine am rfl rfl ?_
  first | (refine al rfl rfl (ac (av := .pt _ _) rfl) ?_) | (refine al rfl rfl (ac (av := .cp _) rfl) ?_) | (refine al rfl rfl (ac (av := .v _) rfl) ?_)
  refine am rfl rfl ?_
  first | (refine al rfl rfl (az rfl) ?_) | (refine al rfl rfl (aX rfl) ?_) | (refine al rfl rfl (aW rfl) ?_)
  refine am rfl rfl <| al rfl rfl (au (n := 1) (by kernel_rfl) rfl) <| am rfl rfl ?_
  first | refine al rfl rfl (aU aa rfl rfl) ?_ | refine bS rfl rfl (ak (i := 0) aa rfl rfl rfl rfl) ?_ | refine bS rfl rfl (ak (i := 1) aa rfl rfl rfl rfl) ?_
  refine am rfl rfl <| al rfl rfl (ac (av := .v _) rfl) <| am rfl rfl ?_
  first | (refine AO.opx rfl rfl (dI (bytes := 1) 0 aa af rfl (by kernel_rfl) rfl rfl rfl ?h3 ?h4) ?_; (case h3 => (first | omega | (simp; done) | (simp; omega))); (case h4 => (first | omega | (simp; done) | (simp; omega)))) | (refine AO.opx rfl rfl (dI (bytes := 1) 1 aa af rfl (by kernel_rfl) rfl rfl rfl ?h5 ?h6) ?_; (case h5 => (first | omega | (simp; done) | (simp; omega))); (case h6 => (first | omega | (simp; done) | (simp; omega)))) | (refine AO.opx rfl rfl (dI (bytes := 1) 2 aa af rfl (by kernel_rfl) rfl rfl rfl ?h7 ?h8) ?_; (case h7 => (first | omega | (simp; done) | (simp; omega))); (case h8 => (first | omega | (simp; done) | (simp; omega)))) | (refine AO.opx rfl rfl (dI (bytes := 1) 3 aa af rfl (by kernel_rfl) rfl rfl rfl ?h9 ?h10) ?_; (case h9 => (first | omega | (simp; done) | (simp; omega))); (case h10 => (first | omega | (simp; done) | (simp; omega))))
  rintro _ _ ⟨t14, rfl, rfl⟩;refine am rfl rfl ?_
  first | (refine al rfl rfl (az rfl) ?_) | (refine al rfl rfl (aX rfl) ?_) | (refine al rfl rfl (aW rfl) ?_)
  refine am rfl rfl <| al rfl rfl (au (n := 1) (by kernel_rfl) rfl) <| am rfl rfl ?_
  first | (refine bU rfl (an (i := 0) (c := slE _ _ _) (by kernel_rfl) rfl rfl rfl rfl ?h12) ?_; (case h12 => (simp))) | (refine bU rfl (an (i := 0) (c := .v _) (by kernel_rfl) rfl rfl rfl rfl ?h13) ?_; (case h13 => (simp))) | (refine bU rfl (an (i := 0) (c := .vw _ _ _ _) (by kernel_rfl) rfl rfl rfl rfl ?h14) ?_; (case h14 => (simp))) | (refine bU rfl (an (i := 1) (c := slE _ _ _) (by kernel_rfl) rfl rfl rfl rfl ?h15) ?_; (case h15 => (simp))) | (refine bU rfl (an (i := 1) (c := .v _) (by kernel_rfl) rfl rfl rfl rfl ?h16) ?_; (case h16 => (simp))) | (refine bU rfl (an (i := 1) (c := .vw _ _ _ _) (by kernel_rfl) rfl rfl rfl rfl ?h17) ?_; (case h17 => (simp)))
  refine ai <| ah <| ab ?_;show AR _ _ _ _ _ [0, 1, 2, 3] _;refine am rfl rfl <| al rfl rfl (ac (av := .v _) rfl) <| am rfl rfl <| al rfl rfl (bg af rfl) <| am rfl rfl <| al rfl rfl (ao (av := .v _) rfl) <| am rfl rfl <| al rfl rfl (ao (av := .v _) rfl) <| ai <| aP ?_
  -- END 1 (ret)
  show cl _ _ _ _ .ret _;exact ⟨rfl, _, _, ResV.two (av := .v _) (bv := .v _) rfl rfl rfl, be _, rfl, t14, rfl⟩
set_option maxRecDepth 100000 in
set_option maxHeartbeats 1000000 in
theorem lq (o : Nat) (a : AV) (ha : a = .v (.pointer none) ∨ a = .pt o 0) (l s : List UInt8) (q : Option Nat) (t : Nat) (hl : l.length + s.length ≤ 1000000000) :
    ACalls Tryz.prog 136 [.pt o 0, slE Enc.byte s q] [.obj o [a, slE Enc.byte l (some t)], .ty o 142, .tok t 5] (fun e A' => e = .ret (.tup [i64 s.length, .v .nilIface]) ∧ ∃ t', A' = [.obj o [.pt o 0, slE Enc.byte (l ++ s) (some t')], .ty o 142, .tok t' 5]) := by
  refine ax Tryz.func136 rfl rfl ?_;show AW _ _ 19 _ _ _;refine ah <| ab ?_;show AR _ _ _ _ _ [0, 1] _;refine am rfl rfl <| al rfl rfl (ao (av := .v _) rfl) <| am rfl rfl <| al rfl rfl (ao (av := .v _) rfl) <| ai <| ah <| ab ?_;show AR _ _ _ _ _ [0, 1] _;refine am rfl rfl ?_
  first | (refine al rfl rfl (ac (av := .pt _ _) rfl) ?_) | (refine al rfl rfl (ac (av := .cp _) rfl) ?_) | (refine al rfl rfl (ac (av := .v _) rfl) ?_)
  refine am rfl rfl <| AO.call [.tok t 5] rfl en143 rfl (dh  o a (slE Enc.byte l (some t)) ha) ?p1 ?k1 ?q1
  (case p1 => (exact bo _))
  (case q1 => (rintro c A' ⟨h, _⟩; cases h))
  rintro av A' ⟨h, rfl⟩; cases h
  refine ai <| ah <| ab ?_;show AR _ _ _ _ _ [0, 1, 2, 3, 4, 5, 6, 7, 8, 9] _;refine am rfl rfl ?_
  first | (refine al rfl rfl (ac (av := .pt _ _) rfl) ?_) | (refine al rfl rfl (ac (av := .cp _) rfl) ?_) | (refine al rfl rfl (ac (av := .v _) rfl) ?_)
  refine am rfl rfl ?_
  first | (refine al rfl rfl (ac (av := .pt _ _) rfl) ?_) | (refine al rfl rfl (ac (av := .cp _) rfl) ?_) | (refine al rfl rfl (ac (av := .v _) rfl) ?_)
  refine am rfl rfl ?_
  first | (refine al rfl rfl (az rfl) ?_) | (refine al rfl rfl (aX rfl) ?_) | (refine al rfl rfl (aW rfl) ?_)
  refine am rfl rfl <| al rfl rfl (au (n := 1) (by kernel_rfl) rfl) <| am rfl rfl ?_
  first | refine al rfl rfl (aU aa rfl rfl) ?_ | refine bS rfl rfl (ak (i := 0) aa rfl rfl rfl rfl) ?_ | refine bS rfl rfl (ak (i := 1) aa rfl rfl rfl rfl) ?_
  refine am rfl rfl ?_
  first | (refine al rfl rfl (ac (av := slE _ _ _) rfl) ?_) | (refine al rfl rfl (ac (av := .v _) rfl) ?_) | (refine al rfl rfl (ac (av := .vw _ _ _ _) rfl) ?_)
  refine am rfl rfl ?_
  first | (refine AO.opx rfl rfl (gh (bytes := 1) 0 aa aa rfl (by kernel_rfl) rfl rfl rfl ?h3 ?h4) ?_; (case h3 => (first | omega | (simp; done) | (simp; omega))); (case h4 => (first | omega | (simp; done) | (simp; omega)))) | (refine AO.opx rfl rfl (gh (bytes := 1) 1 aa aa rfl (by kernel_rfl) rfl rfl rfl ?h5 ?h6) ?_; (case h5 => (first | omega | (simp; done) | (simp; omega))); (case h6 => (first | omega | (simp; done) | (simp; omega)))) | (refine AO.opx rfl rfl (gh (bytes := 1) 2 aa aa rfl (by kernel_rfl) rfl rfl rfl ?h7 ?h8) ?_; (case h7 => (first | omega | (simp; done) | (simp; omega))); (case h8 => (first | omega | (simp; done) | (simp; omega)))) | (refine AO.opx rfl rfl (gh (bytes := 1) 3 aa aa rfl (by kernel_rfl) rfl rfl rfl ?h9 ?h10) ?_; (case h9 => (first | omega | (simp; done) | (simp; omega))); (case h10 => (first | omega | (simp; done) | (simp; omega)))) | (refine AO.opx rfl rfl (iX (bytes := 1) aa aa rfl (by kernel_rfl) rfl rfl ?h11 ?h12) ?_; (case h11 => (first | omega | (simp; done) | (simp; omega))); (case h12 => (first | omega | (simp; done) | (simp; omega))))
  rintro _ _ ⟨t14, rfl, rfl⟩;refine am rfl rfl ?_
  first | (refine al rfl rfl (az rfl) ?_) | (refine al rfl rfl (aX rfl) ?_) | (refine al rfl rfl (aW rfl) ?_)
  refine am rfl rfl <| al rfl rfl (au (n := 1) (by kernel_rfl) rfl) <| am rfl rfl ?_
  first | (refine bU rfl (an (i := 0) (c := slE _ _ _) (by kernel_rfl) rfl rfl rfl rfl ?h14) ?_; (case h14 => (simp))) | (refine bU rfl (an (i := 0) (c := .v _) (by kernel_rfl) rfl rfl rfl rfl ?h15) ?_; (case h15 => (simp))) | (refine bU rfl (an (i := 0) (c := .vw _ _ _ _) (by kernel_rfl) rfl rfl rfl rfl ?h16) ?_; (case h16 => (simp))) | (refine bU rfl (an (i := 1) (c := slE _ _ _) (by kernel_rfl) rfl rfl rfl rfl ?h17) ?_; (case h17 => (simp))) | (refine bU rfl (an (i := 1) (c := .v _) (by kernel_rfl) rfl rfl rfl rfl ?h18) ?_; (case h18 => (simp))) | (refine bU rfl (an (i := 1) (c := .vw _ _ _ _) (by kernel_rfl) rfl rfl rfl rfl ?h19) ?_; (case h19 => (simp)))
  refine ai <| ah <| ab ?_;show AR _ _ _ _ _ [0, 1, 2, 3] _;refine am rfl rfl ?_
  first | (refine al rfl rfl (ac (av := slE _ _ _) rfl) ?_) | (refine al rfl rfl (ac (av := .v _) rfl) ?_) | (refine al rfl rfl (ac (av := .vw _ _ _ _) rfl) ?_)
  refine am rfl rfl ?_
  first | (refine al rfl rfl (aG aa rfl) ?_) | (refine al rfl rfl (bO aa rfl) ?_)
  refine am rfl rfl <| al rfl rfl (ao (av := .v _) rfl) <| am rfl rfl <| al rfl rfl (ao (av := .v _) rfl) <| ai <| aP ?_
  -- END 1 (ret)
  show cl _ _ _ _ .ret _;exact ⟨rfl, _, _, ResV.two (av := .v _) (bv := .v _) rfl rfl rfl, be _, rfl, t14, rfl⟩
abbrev _root_.Go.Av.bu := @Tryz.underlying164
set_option maxRecDepth 100000 in
set_option maxHeartbeats 1000000 in
theorem fO (o : Nat) (a : AV) (l : List UInt8) (t : Nat) (hl : l.length ≤ 1000000000) :
    ACalls Tryz.prog 128 [.pt o 0] [.obj o [a, slE Enc.byte l (some t)], .tok t 5] (Ret (S l) [.obj o [a, slE Enc.byte l (some t)]]) := by
  refine ax Tryz.func128 rfl rfl ?_;show AW _ _ 14 _ _ _;refine ah <| ab ?_;show AR _ _ _ _ _ [0] _;refine am rfl rfl <| al rfl rfl (ao (av := .v _) rfl) <| ai <| ah <| bH (by kernel_rfl) ?_;show AI _ _ _ _ _ 12 (Array.replicate 12 false) _
  first | (refine aA (i := 0) rfl rfl (by kernel_rfl) (by kernel_rfl) (by kernel_rfl) (fun _ _ h => by obtain ⟨_, _, _, h, _⟩ := h; cases h) (ac (av := .pt _ _) rfl) ?_) | (refine aA (i := 0) rfl rfl (by kernel_rfl) (by kernel_rfl) (by kernel_rfl) (fun _ _ h => by obtain ⟨_, _, _, h, _⟩ := h; cases h) (ac (av := .cp _) rfl) ?_) | (refine aA (i := 0) rfl rfl (by kernel_rfl) (by kernel_rfl) (by kernel_rfl) (fun _ _ h => by obtain ⟨_, _, _, h, _⟩ := h; cases h) (ac (av := .v _) rfl) ?_)
  show AI _ _ _ _ _ _ #[true, false, false, false, false, false, false, false, false, false, false, false] _
  first | (refine aA (i := 1) rfl rfl (by kernel_rfl) (by kernel_rfl) (by kernel_rfl) (fun _ _ h => by obtain ⟨_, _, _, h, _⟩ := h; cases h) (az rfl) ?_) | (refine aA (i := 1) rfl rfl (by kernel_rfl) (by kernel_rfl) (by kernel_rfl) (fun _ _ h => by obtain ⟨_, _, _, h, _⟩ := h; cases h) (aX rfl) ?_) | (refine aA (i := 1) rfl rfl (by kernel_rfl) (by kernel_rfl) (by kernel_rfl) (fun _ _ h => by obtain ⟨_, _, _, h, _⟩ := h; cases h) (aW rfl) ?_)
  show AI _ _ _ _ _ _ #[true, true, false, false, false, false, false, false, false, false, false, false] _;refine aA (i := 2) rfl rfl (by kernel_rfl) (by kernel_rfl) (by kernel_rfl) (fun _ _ h => by obtain ⟨_, _, _, h, _⟩ := h; cases h) (au (n := 1) (by kernel_rfl) rfl) ?_;show AI _ _ _ _ _ _ #[true, true, true, false, false, false, false, false, false, false, false, false] _
  first | (refine aA (i := 5) rfl rfl (by kernel_rfl) (by kernel_rfl) (by kernel_rfl) (fun _ _ h => by obtain ⟨_, _, _, h, _⟩ := h; cases h) (ac (av := .pt _ _) rfl) ?_) | (refine aA (i := 5) rfl rfl (by kernel_rfl) (by kernel_rfl) (by kernel_rfl) (fun _ _ h => by obtain ⟨_, _, _, h, _⟩ := h; cases h) (ac (av := .cp _) rfl) ?_) | (refine aA (i := 5) rfl rfl (by kernel_rfl) (by kernel_rfl) (by kernel_rfl) (fun _ _ h => by obtain ⟨_, _, _, h, _⟩ := h; cases h) (ac (av := .v _) rfl) ?_)
  show AI _ _ _ _ _ _ #[true, true, true, false, false, true, false, false, false, false, false, false] _
  first | (refine aA (i := 6) rfl rfl (by kernel_rfl) (by kernel_rfl) (by kernel_rfl) (fun _ _ h => by obtain ⟨_, _, _, h, _⟩ := h; cases h) (az rfl) ?_) | (refine aA (i := 6) rfl rfl (by kernel_rfl) (by kernel_rfl) (by kernel_rfl) (fun _ _ h => by obtain ⟨_, _, _, h, _⟩ := h; cases h) (aX rfl) ?_) | (refine aA (i := 6) rfl rfl (by kernel_rfl) (by kernel_rfl) (by kernel_rfl) (fun _ _ h => by obtain ⟨_, _, _, h, _⟩ := h; cases h) (aW rfl) ?_)
  show AI _ _ _ _ _ _ #[true, true, true, false, false, true, true, false, false, false, false, false] _;refine aA (i := 7) rfl rfl (by kernel_rfl) (by kernel_rfl) (by kernel_rfl) (fun _ _ h => by obtain ⟨_, _, _, h, _⟩ := h; cases h) (au (n := 1) (by kernel_rfl) rfl) ?_;show AI _ _ _ _ _ _ #[true, true, true, false, false, true, true, true, false, false, false, false] _;refine cD (i := 3) (j := 8) (by kernel_rfl) rfl rfl rfl rfl ?_ ?_
  · first | refine aL rfl (ak (i := 0) aa rfl rfl rfl rfl) ?_ | refine aL rfl (ak (i := 1) aa rfl rfl rfl rfl) ?_
    show AI _ _ _ _ _ _ #[true, true, true, true, false, true, true, true, false, false, false, false] _;refine cD (i := 4) (j := 8) (by kernel_rfl) rfl rfl rfl rfl ?_ ?_
    · first | refine aL rfl (dx (i := 0) bu rfl rfl) ?_ | refine aL rfl (dx (i := 1) bu rfl rfl) ?_
      show AI _ _ _ _ _ _ #[true, true, true, true, true, true, true, true, false, false, false, false] _;refine aQ (i := 8) (by kernel_rfl) rfl rfl ?_
      first | refine aL rfl (ak (i := 0) aa rfl rfl rfl rfl) ?_ | refine aL rfl (ak (i := 1) aa rfl rfl rfl rfl) ?_
      show AI _ _ _ _ _ _ #[true, true, true, true, true, true, true, true, true, false, false, false] _
      first | (refine aA (i := 9) rfl rfl (by kernel_rfl) (by kernel_rfl) (by kernel_rfl) (fun _ _ h => by obtain ⟨_, _, _, h, _⟩ := h; cases h) (aG aa rfl) ?_) | (refine aA (i := 9) rfl rfl (by kernel_rfl) (by kernel_rfl) (by kernel_rfl) (fun _ _ h => by obtain ⟨_, _, _, h, _⟩ := h; cases h) (bO aa rfl) ?_)
      show AI _ _ _ _ _ _ #[true, true, true, true, true, true, true, true, true, true, false, false] _;refine aQ (i := 10) (by kernel_rfl) rfl rfl ?_
      first | (refine aL rfl (cC (i := 0) (El := 5) bu (by kernel_rfl) rfl rfl rfl ?h2 rfl) ?_; (case h2 => (first | omega | (simp; omega)))) | (refine aL rfl (cC (i := 1) (El := 5) bu (by kernel_rfl) rfl rfl rfl ?h3 rfl) ?_; (case h3 => (first | omega | (simp; omega))))
      show AI _ _ _ _ _ _ #[true, true, true, true, true, true, true, true, true, true, true, false] _;refine aA (i := 11) rfl rfl (by kernel_rfl) (by kernel_rfl) (by kernel_rfl) (fun _ _ h => by obtain ⟨_, _, _, h, _⟩ := h; cases h) (ao (av := .v _) rfl) ?_;show AI _ _ _ _ _ _ #[true, true, true, true, true, true, true, true, true, true, true, true] _;refine br rfl <| aP ?_
      -- END 1 (ret)
      show cl _ _ _ _ .ret _
      (refine ⟨rfl, _, _, aR rfl ?_, ?_, ⟨rfl, rfl⟩⟩; all_goals first | exact be _ | exact bW _ | ((repeat (first | exact be _ | exact bW _ | refine cR _ ?_ | refine cQ _ ?_)); done) | exact Wv.refl _ | exact Wv.tok _ _ _ | exact Wv.nil _)
    · first | refine aL rfl (ak (i := 0) aa rfl rfl rfl rfl) ?_ | refine aL rfl (ak (i := 1) aa rfl rfl rfl rfl) ?_
      show AI _ _ _ _ _ _ #[true, true, true, true, false, true, true, true, true, false, false, false] _
      first | (refine aA (i := 9) rfl rfl (by kernel_rfl) (by kernel_rfl) (by kernel_rfl) (fun _ _ h => by obtain ⟨_, _, _, h, _⟩ := h; cases h) (aG aa rfl) ?_) | (refine aA (i := 9) rfl rfl (by kernel_rfl) (by kernel_rfl) (by kernel_rfl) (fun _ _ h => by obtain ⟨_, _, _, h, _⟩ := h; cases h) (bO aa rfl) ?_)
      show AI _ _ _ _ _ _ #[true, true, true, true, false, true, true, true, true, true, false, false] _;refine aQ (i := 4) (by kernel_rfl) rfl rfl ?_
      first | refine aL rfl (dx (i := 0) bu rfl rfl) ?_ | refine aL rfl (dx (i := 1) bu rfl rfl) ?_
      show AI _ _ _ _ _ _ #[true, true, true, true, true, true, true, true, true, true, false, false] _;refine aQ (i := 10) (by kernel_rfl) rfl rfl ?_
      first | (refine aL rfl (cC (i := 0) (El := 5) bu (by kernel_rfl) rfl rfl rfl ?h5 rfl) ?_; (case h5 => (first | omega | (simp; omega)))) | (refine aL rfl (cC (i := 1) (El := 5) bu (by kernel_rfl) rfl rfl rfl ?h6 rfl) ?_; (case h6 => (first | omega | (simp; omega))))
      show AI _ _ _ _ _ _ #[true, true, true, true, true, true, true, true, true, true, true, false] _;refine aA (i := 11) rfl rfl (by kernel_rfl) (by kernel_rfl) (by kernel_rfl) (fun _ _ h => by obtain ⟨_, _, _, h, _⟩ := h; cases h) (ao (av := .v _) rfl) ?_;show AI _ _ _ _ _ _ #[true, true, true, true, true, true, true, true, true, true, true, true] _;refine br rfl <| aP ?_
      -- END 2 (ret)
      show cl _ _ _ _ .ret _
      (refine ⟨rfl, _, _, aR rfl ?_, ?_, ⟨rfl, rfl⟩⟩; all_goals first | exact be _ | exact bW _ | ((repeat (first | exact be _ | exact bW _ | refine cR _ ?_ | refine cQ _ ?_)); done) | exact Wv.refl _ | exact Wv.tok _ _ _ | exact Wv.nil _)
  · first | refine aL rfl (ak (i := 0) aa rfl rfl rfl rfl) ?_ | refine aL rfl (ak (i := 1) aa rfl rfl rfl rfl) ?_
    show AI _ _ _ _ _ _ #[true, true, true, false, false, true, true, true, true, false, false, false] _
    first | (refine aA (i := 9) rfl rfl (by kernel_rfl) (by kernel_rfl) (by kernel_rfl) (fun _ _ h => by obtain ⟨_, _, _, h, _⟩ := h; cases h) (aG aa rfl) ?_) | (refine aA (i := 9) rfl rfl (by kernel_rfl) (by kernel_rfl) (by kernel_rfl) (fun _ _ h => by obtain ⟨_, _, _, h, _⟩ := h; cases h) (bO aa rfl) ?_)
    show AI _ _ _ _ _ _ #[true, true, true, false, false, true, true, true, true, true, false, false] _;refine aQ (i := 3) (by kernel_rfl) rfl rfl ?_
    first | refine aL rfl (ak (i := 0) aa rfl rfl rfl rfl) ?_ | refine aL rfl (ak (i := 1) aa rfl rfl rfl rfl) ?_
    show AI _ _ _ _ _ _ #[true, true, true, true, false, true, true, true, true, true, false, false] _;refine aQ (i := 4) (by kernel_rfl) rfl rfl ?_
    first | refine aL rfl (dx (i := 0) bu rfl rfl) ?_ | refine aL rfl (dx (i := 1) bu rfl rfl) ?_
    show AI _ _ _ _ _ _ #[true, true, true, true, true, true, true, true, true, true, false, false] _;refine aQ (i := 10) (by kernel_rfl) rfl rfl ?_
    first | (refine aL rfl (cC (i := 0) (El := 5) bu (by kernel_rfl) rfl rfl rfl ?h8 rfl) ?_; (case h8 => (first | omega | (simp; omega)))) | (refine aL rfl (cC (i := 1) (El := 5) bu (by kernel_rfl) rfl rfl rfl ?h9 rfl) ?_; (case h9 => (first | omega | (simp; omega))))
    show AI _ _ _ _ _ _ #[true, true, true, true, true, true, true, true, true, true, true, false] _;refine aA (i := 11) rfl rfl (by kernel_rfl) (by kernel_rfl) (by kernel_rfl) (fun _ _ h => by obtain ⟨_, _, _, h, _⟩ := h; cases h) (ao (av := .v _) rfl) ?_;show AI _ _ _ _ _ _ #[true, true, true, true, true, true, true, true, true, true, true, true] _;refine br rfl <| aP ?_
    -- END 3 (ret)
    show cl _ _ _ _ .ret _
    (refine ⟨rfl, _, _, aR rfl ?_, ?_, ⟨rfl, rfl⟩⟩; all_goals first | exact be _ | exact bW _ | ((repeat (first | exact be _ | exact bW _ | refine cR _ ?_ | refine cQ _ ?_)); done) | exact Wv.refl _ | exact Wv.tok _ _ _ | exact Wv.nil _)
set_option maxRecDepth 100000 in
set_option maxHeartbeats 1000000 in
theorem fD (o : Nat) (a : AV) (n : Nat) (hn : n ≤ 1000000000) :
    ACalls Tryz.prog 149 [.pt o 0, i64 n] [.obj o [a, ko]] (fun e A' => e = .ret (.tup []) ∧ ∃ t', A' = [.tok t' 5, .obj o [a, slE Enc.byte [] (some t')]]) := by
  refine ax Tryz.func149 rfl rfl ?_;show AW _ _ 30 _ _ _;refine ah <| bH (by kernel_rfl) ?_;show AI _ _ _ _ _ 16 (Array.replicate 16 false) _
  first | (refine aA (i := 0) rfl rfl (by kernel_rfl) (by kernel_rfl) (by kernel_rfl) (fun _ _ h => by obtain ⟨_, _, _, h, _⟩ := h; cases h) (ac (av := .pt _ _) rfl) ?_) | (refine aA (i := 0) rfl rfl (by kernel_rfl) (by kernel_rfl) (by kernel_rfl) (fun _ _ h => by obtain ⟨_, _, _, h, _⟩ := h; cases h) (ac (av := .cp _) rfl) ?_) | (refine aA (i := 0) rfl rfl (by kernel_rfl) (by kernel_rfl) (by kernel_rfl) (fun _ _ h => by obtain ⟨_, _, _, h, _⟩ := h; cases h) (ac (av := .v _) rfl) ?_)
  show AI _ _ _ _ _ _ #[true, false, false, false, false, false, false, false, false, false, false, false, false, false, false, false] _
  first | (refine aA (i := 1) rfl rfl (by kernel_rfl) (by kernel_rfl) (by kernel_rfl) (fun _ _ h => by obtain ⟨_, _, _, h, _⟩ := h; cases h) (az rfl) ?_) | (refine aA (i := 1) rfl rfl (by kernel_rfl) (by kernel_rfl) (by kernel_rfl) (fun _ _ h => by obtain ⟨_, _, _, h, _⟩ := h; cases h) (aX rfl) ?_) | (refine aA (i := 1) rfl rfl (by kernel_rfl) (by kernel_rfl) (by kernel_rfl) (fun _ _ h => by obtain ⟨_, _, _, h, _⟩ := h; cases h) (aW rfl) ?_)
  show AI _ _ _ _ _ _ #[true, true, false, false, false, false, false, false, false, false, false, false, false, false, false, false] _;refine aA (i := 2) rfl rfl (by kernel_rfl) (by kernel_rfl) (by kernel_rfl) (fun _ _ h => by obtain ⟨_, _, _, h, _⟩ := h; cases h) (au (n := 1) (by kernel_rfl) rfl) ?_;show AI _ _ _ _ _ _ #[true, true, true, false, false, false, false, false, false, false, false, false, false, false, false, false] _;refine aA (i := 6) rfl rfl (by kernel_rfl) (by kernel_rfl) (by kernel_rfl) (fun _ _ h => by obtain ⟨_, _, _, h, _⟩ := h; cases h) (ac (av := .v _) rfl) ?_;show AI _ _ _ _ _ _ #[true, true, true, false, false, false, true, false, false, false, false, false, false, false, false, false] _
  first | (refine aA (i := 9) rfl rfl (by kernel_rfl) (by kernel_rfl) (by kernel_rfl) (fun _ _ h => by obtain ⟨_, _, _, h, _⟩ := h; cases h) (ac (av := .pt _ _) rfl) ?_) | (refine aA (i := 9) rfl rfl (by kernel_rfl) (by kernel_rfl) (by kernel_rfl) (fun _ _ h => by obtain ⟨_, _, _, h, _⟩ := h; cases h) (ac (av := .cp _) rfl) ?_) | (refine aA (i := 9) rfl rfl (by kernel_rfl) (by kernel_rfl) (by kernel_rfl) (fun _ _ h => by obtain ⟨_, _, _, h, _⟩ := h; cases h) (ac (av := .v _) rfl) ?_)
  show AI _ _ _ _ _ _ #[true, true, true, false, false, false, true, false, false, true, false, false, false, false, false, false] _
  first | (refine aA (i := 10) rfl rfl (by kernel_rfl) (by kernel_rfl) (by kernel_rfl) (fun _ _ h => by obtain ⟨_, _, _, h, _⟩ := h; cases h) (az rfl) ?_) | (refine aA (i := 10) rfl rfl (by kernel_rfl) (by kernel_rfl) (by kernel_rfl) (fun _ _ h => by obtain ⟨_, _, _, h, _⟩ := h; cases h) (aX rfl) ?_) | (refine aA (i := 10) rfl rfl (by kernel_rfl) (by kernel_rfl) (by kernel_rfl) (fun _ _ h => by obtain ⟨_, _, _, h, _⟩ := h; cases h) (aW rfl) ?_)
  show AI _ _ _ _ _ _ #[true, true, true, false, false, false, true, false, false, true, true, false, false, false, false, false] _;refine aA (i := 11) rfl rfl (by kernel_rfl) (by kernel_rfl) (by kernel_rfl) (fun _ _ h => by obtain ⟨_, _, _, h, _⟩ := h; cases h) (au (n := 1) (by kernel_rfl) rfl) ?_;show AI _ _ _ _ _ _ #[true, true, true, false, false, false, true, false, false, true, true, true, false, false, false, false] _;refine cD (i := 3) (j := 12) (by kernel_rfl) rfl rfl rfl rfl ?_ ?_
  · first | refine aL rfl (ak (i := 0) aa rfl rfl rfl rfl) ?_ | refine aL rfl (ak (i := 1) aa rfl rfl rfl rfl) ?_
    show AI _ _ _ _ _ _ #[true, true, true, true, false, false, true, false, false, true, true, true, false, false, false, false] _
    first | (refine aA (i := 4) rfl rfl (by kernel_rfl) (by kernel_rfl) (by kernel_rfl) (fun _ _ h => by obtain ⟨_, _, _, h, _⟩ := h; cases h) (eG aa rfl) ?_) | (refine aA (i := 4) rfl rfl (by kernel_rfl) (by kernel_rfl) (by kernel_rfl) (fun _ _ h => by obtain ⟨_, _, _, h, _⟩ := h; cases h) (opS_cap_vw aa rfl) ?_)
    show AI _ _ _ _ _ _ #[true, true, true, true, true, false, true, false, false, true, true, true, false, false, false, false] _
    refine aA (i := 5) rfl rfl (by kernel_rfl) (by kernel_rfl) (by kernel_rfl) (fun _ _ h => by obtain ⟨_, _, _, h, _⟩ := h; cases h) (lb rfl rfl ?h2) ?_; (case h2 => (omega))
    show AI _ _ _ _ _ _ #[true, true, true, true, true, true, true, false, false, true, true, true, false, false, false, false] _
    refine aA (i := 7) rfl rfl (by kernel_rfl) (by kernel_rfl) (by kernel_rfl) (fun _ _ h => by obtain ⟨_, _, _, h, _⟩ := h; cases h) (iP rfl rfl ?h4) ?_; (case h4 => (omega))
    show AI _ _ _ _ _ _ #[true, true, true, true, true, true, true, true, false, true, true, true, false, false, false, false] _;refine cD (i := 8) (j := 12) (by kernel_rfl) rfl rfl rfl rfl ?_ ?_
    · refine bt rfl (gd (m := n) (ps := #[3]) (t0 := 26) Tryz.func91 ⟨by kernel_rfl, by kernel_rfl, by kernel_rfl, by kernel_rfl⟩ aa rfl ?h7 ?h8) ?_; (case h7 => (omega)); (case h8 => (first | omega | (simp; omega)))
      rintro _ _ ⟨t13, rfl, rfl⟩;show AI _ _ _ _ _ _ #[true, true, true, true, true, true, true, true, true, true, true, true, false, false, false, false] _;refine aQ (i := 12) (by kernel_rfl) rfl rfl ?_
      first | refine aL rfl (ak (i := 0) aa rfl rfl rfl rfl) ?_ | refine aL rfl (ak (i := 1) aa rfl rfl rfl rfl) ?_
      show AI _ _ _ _ _ _ #[true, true, true, true, true, true, true, true, true, true, true, true, true, false, false, false] _
      first | (refine aA (i := 13) rfl rfl (by kernel_rfl) (by kernel_rfl) (by kernel_rfl) (fun _ _ h => by obtain ⟨_, _, _, h, _⟩ := h; cases h) (aG aa rfl) ?_) | (refine aA (i := 13) rfl rfl (by kernel_rfl) (by kernel_rfl) (by kernel_rfl) (fun _ _ h => by obtain ⟨_, _, _, h, _⟩ := h; cases h) (bO aa rfl) ?_)
      show AI _ _ _ _ _ _ #[true, true, true, true, true, true, true, true, true, true, true, true, true, true, false, false] _
      refine aA (i := 14) rfl rfl (by kernel_rfl) (by kernel_rfl) (by kernel_rfl) (fun _ _ h => by obtain ⟨_, _, _, h, _⟩ := h; cases h) (iu (E := Enc.byte) aa (by kernel_rfl) rfl rfl rfl ?h9) ?_; (case h9 => (first | rfl | omega))
      show AI _ _ _ _ _ _ #[true, true, true, true, true, true, true, true, true, true, true, true, true, true, true, false] _
      first | (refine aA (i := 15) rfl rfl (by kernel_rfl) (by kernel_rfl) (by kernel_rfl) (fun _ _ h => by obtain ⟨_, _, _, h, _⟩ := h; cases h) (ao (av := slE _ _ _) rfl) ?_) | (refine aA (i := 15) rfl rfl (by kernel_rfl) (by kernel_rfl) (by kernel_rfl) (fun _ _ h => by obtain ⟨_, _, _, h, _⟩ := h; cases h) (ao (av := .v _) rfl) ?_) | (refine aA (i := 15) rfl rfl (by kernel_rfl) (by kernel_rfl) (by kernel_rfl) (fun _ _ h => by obtain ⟨_, _, _, h, _⟩ := h; cases h) (ao (av := .vw _ _ _ _) rfl) ?_)
      show AI _ _ _ _ _ _ #[true, true, true, true, true, true, true, true, true, true, true, true, true, true, true, true] _;refine br rfl <| ah <| ab ?_;show AR _ _ _ _ _ [0, 1, 2, 3, 4, 5] _;refine am rfl rfl ?_
      first | (refine al rfl rfl (ac (av := slE _ _ _) rfl) ?_) | (refine al rfl rfl (ac (av := .v _) rfl) ?_) | (refine al rfl rfl (ac (av := .vw _ _ _ _) rfl) ?_)
      refine am rfl rfl ?_
      first | (refine al rfl rfl (ac (av := .pt _ _) rfl) ?_) | (refine al rfl rfl (ac (av := .cp _) rfl) ?_) | (refine al rfl rfl (ac (av := .v _) rfl) ?_)
      refine am rfl rfl ?_
      first | (refine al rfl rfl (az rfl) ?_) | (refine al rfl rfl (aX rfl) ?_) | (refine al rfl rfl (aW rfl) ?_)
      refine am rfl rfl <| al rfl rfl (au (n := 1) (by kernel_rfl) rfl) <| am rfl rfl ?_
      first | refine al rfl rfl (aU aa rfl rfl) ?_ | refine bS rfl rfl (ak (i := 0) aa rfl rfl rfl rfl) ?_ | refine bS rfl rfl (ak (i := 1) aa rfl rfl rfl rfl) ?_
      refine am rfl rfl ?_
      first | (refine bS rfl rfl (OpS.opR (gN (E := Enc.byte) aa (by kernel_rfl) rfl rfl) _) ?_) | (refine bS rfl rfl (dP (E := Enc.byte) (i := 0) aa (by kernel_rfl) rfl rfl rfl ?h12 ?h13) ?_; (case h12 => (first | omega | (simp; omega))); (case h13 => (first | omega | (simp; omega)))) | (refine bS rfl rfl (dP (E := Enc.byte) (i := 1) aa (by kernel_rfl) rfl rfl rfl ?h14 ?h15) ?_; (case h14 => (first | omega | (simp; omega))); (case h15 => (first | omega | (simp; omega)))) | (refine bS rfl rfl (dU (i := 0) aa (by kernel_rfl) rfl rfl rfl ?h16 ?h17) ?_; (case h16 => (first | omega | (simp; omega))); (case h17 => (first | omega | (simp; omega)))) | (refine bS rfl rfl (dU (i := 1) aa (by kernel_rfl) rfl rfl rfl ?h18 ?h19) ?_; (case h18 => (first | omega | (simp; omega))); (case h19 => (first | omega | (simp; omega))))
      refine ai <| ab ?_;show AR _ _ _ _ _ [0, 1, 2, 3, 4] _;refine am rfl rfl ?_
      first | (refine al rfl rfl (ac (av := .pt _ _) rfl) ?_) | (refine al rfl rfl (ac (av := .cp _) rfl) ?_) | (refine al rfl rfl (ac (av := .v _) rfl) ?_)
      refine am rfl rfl ?_
      first | (refine al rfl rfl (ac (av := slE _ _ _) rfl) ?_) | (refine al rfl rfl (ac (av := .v _) rfl) ?_) | (refine al rfl rfl (ac (av := .vw _ _ _ _) rfl) ?_)
      refine am rfl rfl ?_
      first | (refine al rfl rfl (az rfl) ?_) | (refine al rfl rfl (aX rfl) ?_) | (refine al rfl rfl (aW rfl) ?_)
      refine am rfl rfl <| al rfl rfl (au (n := 1) (by kernel_rfl) rfl) <| am rfl rfl ?_
      first | (refine bU rfl (an (i := 0) (c := slE _ _ _) (by kernel_rfl) rfl rfl rfl rfl ?h21) ?_; (case h21 => (simp))) | (refine bU rfl (an (i := 0) (c := .v _) (by kernel_rfl) rfl rfl rfl rfl ?h22) ?_; (case h22 => (simp))) | (refine bU rfl (an (i := 0) (c := .vw _ _ _ _) (by kernel_rfl) rfl rfl rfl rfl ?h23) ?_; (case h23 => (simp))) | (refine bU rfl (an (i := 1) (c := slE _ _ _) (by kernel_rfl) rfl rfl rfl rfl ?h24) ?_; (case h24 => (simp))) | (refine bU rfl (an (i := 1) (c := .v _) (by kernel_rfl) rfl rfl rfl rfl ?h25) ?_; (case h25 => (simp))) | (refine bU rfl (an (i := 1) (c := .vw _ _ _ _) (by kernel_rfl) rfl rfl rfl rfl ?h26) ?_; (case h26 => (simp)))
      refine ai ?_
      -- END 1 (end)
      show cl _ _ _ _ .normal _;exact ⟨rfl, _, _, df rfl, be _, rfl, t13, rfl⟩
    · first | refine aL rfl (ak (i := 0) aa rfl rfl rfl rfl) ?_ | refine aL rfl (ak (i := 1) aa rfl rfl rfl rfl) ?_
      show AI _ _ _ _ _ _ #[true, true, true, true, true, true, true, true, false, true, true, true, true, false, false, false] _
      first | (refine aA (i := 13) rfl rfl (by kernel_rfl) (by kernel_rfl) (by kernel_rfl) (fun _ _ h => by obtain ⟨_, _, _, h, _⟩ := h; cases h) (aG aa rfl) ?_) | (refine aA (i := 13) rfl rfl (by kernel_rfl) (by kernel_rfl) (by kernel_rfl) (fun _ _ h => by obtain ⟨_, _, _, h, _⟩ := h; cases h) (bO aa rfl) ?_)
      show AI _ _ _ _ _ _ #[true, true, true, true, true, true, true, true, false, true, true, true, true, true, false, false] _;refine aQ (i := 8) (by kernel_rfl) rfl rfl ?_
      refine bt rfl (gd (m := n) (ps := #[3]) (t0 := 26) Tryz.func91 ⟨by kernel_rfl, by kernel_rfl, by kernel_rfl, by kernel_rfl⟩ aa rfl ?h29 ?h30) ?_; (case h29 => (omega)); (case h30 => (first | omega | (simp; omega)))
      rintro _ _ ⟨t13, rfl, rfl⟩;show AI _ _ _ _ _ _ #[true, true, true, true, true, true, true, true, true, true, true, true, true, true, false, false] _
      refine aA (i := 14) rfl rfl (by kernel_rfl) (by kernel_rfl) (by kernel_rfl) (fun _ _ h => by obtain ⟨_, _, _, h, _⟩ := h; cases h) (iu (E := Enc.byte) aa (by kernel_rfl) rfl rfl rfl ?h31) ?_; (case h31 => (first | rfl | omega))
      show AI _ _ _ _ _ _ #[true, true, true, true, true, true, true, true, true, true, true, true, true, true, true, false] _
      first | (refine aA (i := 15) rfl rfl (by kernel_rfl) (by kernel_rfl) (by kernel_rfl) (fun _ _ h => by obtain ⟨_, _, _, h, _⟩ := h; cases h) (ao (av := slE _ _ _) rfl) ?_) | (refine aA (i := 15) rfl rfl (by kernel_rfl) (by kernel_rfl) (by kernel_rfl) (fun _ _ h => by obtain ⟨_, _, _, h, _⟩ := h; cases h) (ao (av := .v _) rfl) ?_) | (refine aA (i := 15) rfl rfl (by kernel_rfl) (by kernel_rfl) (by kernel_rfl) (fun _ _ h => by obtain ⟨_, _, _, h, _⟩ := h; cases h) (ao (av := .vw _ _ _ _) rfl) ?_)
      show AI _ _ _ _ _ _ #[true, true, true, true, true, true, true, true, true, true, true, true, true, true, true, true] _;refine br rfl <| ah <| ab ?_;show AR _ _ _ _ _ [0, 1, 2, 3, 4, 5] _;refine am rfl rfl ?_
      first | (refine al rfl rfl (ac (av := slE _ _ _) rfl) ?_) | (refine al rfl rfl (ac (av := .v _) rfl) ?_) | (refine al rfl rfl (ac (av := .vw _ _ _ _) rfl) ?_)
      refine am rfl rfl ?_
      first | (refine al rfl rfl (ac (av := .pt _ _) rfl) ?_) | (refine al rfl rfl (ac (av := .cp _) rfl) ?_) | (refine al rfl rfl (ac (av := .v _) rfl) ?_)
      refine am rfl rfl ?_
      first | (refine al rfl rfl (az rfl) ?_) | (refine al rfl rfl (aX rfl) ?_) | (refine al rfl rfl (aW rfl) ?_)
      refine am rfl rfl <| al rfl rfl (au (n := 1) (by kernel_rfl) rfl) <| am rfl rfl ?_
      first | refine al rfl rfl (aU aa rfl rfl) ?_ | refine bS rfl rfl (ak (i := 0) aa rfl rfl rfl rfl) ?_ | refine bS rfl rfl (ak (i := 1) aa rfl rfl rfl rfl) ?_
      refine am rfl rfl ?_
      first | (refine bS rfl rfl (OpS.opR (gN (E := Enc.byte) aa (by kernel_rfl) rfl rfl) _) ?_) | (refine bS rfl rfl (dP (E := Enc.byte) (i := 0) aa (by kernel_rfl) rfl rfl rfl ?h34 ?h35) ?_; (case h34 => (first | omega | (simp; omega))); (case h35 => (first | omega | (simp; omega)))) | (refine bS rfl rfl (dP (E := Enc.byte) (i := 1) aa (by kernel_rfl) rfl rfl rfl ?h36 ?h37) ?_; (case h36 => (first | omega | (simp; omega))); (case h37 => (first | omega | (simp; omega)))) | (refine bS rfl rfl (dU (i := 0) aa (by kernel_rfl) rfl rfl rfl ?h38 ?h39) ?_; (case h38 => (first | omega | (simp; omega))); (case h39 => (first | omega | (simp; omega)))) | (refine bS rfl rfl (dU (i := 1) aa (by kernel_rfl) rfl rfl rfl ?h40 ?h41) ?_; (case h40 => (first | omega | (simp; omega))); (case h41 => (first | omega | (simp; omega))))
      refine ai <| ab ?_;show AR _ _ _ _ _ [0, 1, 2, 3, 4] _;refine am rfl rfl ?_
      first | (refine al rfl rfl (ac (av := .pt _ _) rfl) ?_) | (refine al rfl rfl (ac (av := .cp _) rfl) ?_) | (refine al rfl rfl (ac (av := .v _) rfl) ?_)
      refine am rfl rfl ?_
      first | (refine al rfl rfl (ac (av := slE _ _ _) rfl) ?_) | (refine al rfl rfl (ac (av := .v _) rfl) ?_) | (refine al rfl rfl (ac (av := .vw _ _ _ _) rfl) ?_)
      refine am rfl rfl ?_
      first | (refine al rfl rfl (az rfl) ?_) | (refine al rfl rfl (aX rfl) ?_) | (refine al rfl rfl (aW rfl) ?_)
      refine am rfl rfl <| al rfl rfl (au (n := 1) (by kernel_rfl) rfl) <| am rfl rfl ?_
      first | (refine bU rfl (an (i := 0) (c := slE _ _ _) (by kernel_rfl) rfl rfl rfl rfl ?h43) ?_; (case h43 => (simp))) | (refine bU rfl (an (i := 0) (c := .v _) (by kernel_rfl) rfl rfl rfl rfl ?h44) ?_; (case h44 => (simp))) | (refine bU rfl (an (i := 0) (c := .vw _ _ _ _) (by kernel_rfl) rfl rfl rfl rfl ?h45) ?_; (case h45 => (simp))) | (refine bU rfl (an (i := 1) (c := slE _ _ _) (by kernel_rfl) rfl rfl rfl rfl ?h46) ?_; (case h46 => (simp))) | (refine bU rfl (an (i := 1) (c := .v _) (by kernel_rfl) rfl rfl rfl rfl ?h47) ?_; (case h47 => (simp))) | (refine bU rfl (an (i := 1) (c := .vw _ _ _ _) (by kernel_rfl) rfl rfl rfl rfl ?h48) ?_; (case h48 => (simp)))
      refine ai ?_
      -- END 2 (end)
      show cl _ _ _ _ .normal _;exact ⟨rfl, _, _, df rfl, be _, rfl, t13, rfl⟩
  · first | refine aL rfl (ak (i := 0) aa rfl rfl rfl rfl) ?_ | refine aL rfl (ak (i := 1) aa rfl rfl rfl rfl) ?_
    show AI _ _ _ _ _ _ #[true, true, true, false, false, false, true, false, false, true, true, true, true, false, false, false] _
    first | (refine aA (i := 13) rfl rfl (by kernel_rfl) (by kernel_rfl) (by kernel_rfl) (fun _ _ h => by obtain ⟨_, _, _, h, _⟩ := h; cases h) (aG aa rfl) ?_) | (refine aA (i := 13) rfl rfl (by kernel_rfl) (by kernel_rfl) (by kernel_rfl) (fun _ _ h => by obtain ⟨_, _, _, h, _⟩ := h; cases h) (bO aa rfl) ?_)
    show AI _ _ _ _ _ _ #[true, true, true, false, false, false, true, false, false, true, true, true, true, true, false, false] _;refine aQ (i := 3) (by kernel_rfl) rfl rfl ?_
    first | refine aL rfl (ak (i := 0) aa rfl rfl rfl rfl) ?_ | refine aL rfl (ak (i := 1) aa rfl rfl rfl rfl) ?_
    show AI _ _ _ _ _ _ #[true, true, true, true, false, false, true, false, false, true, true, true, true, true, false, false] _
    first | (refine aA (i := 4) rfl rfl (by kernel_rfl) (by kernel_rfl) (by kernel_rfl) (fun _ _ h => by obtain ⟨_, _, _, h, _⟩ := h; cases h) (eG aa rfl) ?_) | (refine aA (i := 4) rfl rfl (by kernel_rfl) (by kernel_rfl) (by kernel_rfl) (fun _ _ h => by obtain ⟨_, _, _, h, _⟩ := h; cases h) (opS_cap_vw aa rfl) ?_)
    show AI _ _ _ _ _ _ #[true, true, true, true, true, false, true, false, false, true, true, true, true, true, false, false] _
    refine aA (i := 5) rfl rfl (by kernel_rfl) (by kernel_rfl) (by kernel_rfl) (fun _ _ h => by obtain ⟨_, _, _, h, _⟩ := h; cases h) (lb rfl rfl ?h50) ?_; (case h50 => (omega))
    show AI _ _ _ _ _ _ #[true, true, true, true, true, true, true, false, false, true, true, true, true, true, false, false] _
    refine aA (i := 7) rfl rfl (by kernel_rfl) (by kernel_rfl) (by kernel_rfl) (fun _ _ h => by obtain ⟨_, _, _, h, _⟩ := h; cases h) (iP rfl rfl ?h52) ?_; (case h52 => (omega))
    show AI _ _ _ _ _ _ #[true, true, true, true, true, true, true, true, false, true, true, true, true, true, false, false] _;refine aQ (i := 8) (by kernel_rfl) rfl rfl ?_
    refine bt rfl (gd (m := n) (ps := #[3]) (t0 := 26) Tryz.func91 ⟨by kernel_rfl, by kernel_rfl, by kernel_rfl, by kernel_rfl⟩ aa rfl ?h55 ?h56) ?_; (case h55 => (omega)); (case h56 => (first | omega | (simp; omega)))
    rintro _ _ ⟨t13, rfl, rfl⟩;show AI _ _ _ _ _ _ #[true, true, true, true, true, true, true, true, true, true, true, true, true, true, false, false] _
    refine aA (i := 14) rfl rfl (by kernel_rfl) (by kernel_rfl) (by kernel_rfl) (fun _ _ h => by obtain ⟨_, _, _, h, _⟩ := h; cases h) (iu (E := Enc.byte) aa (by kernel_rfl) rfl rfl rfl ?h57) ?_; (case h57 => (first | rfl | omega))
    show AI _ _ _ _ _ _ #[true, true, true, true, true, true, true, true, true, true, true, true, true, true, true, false] _
    first | (refine aA (i := 15) rfl rfl (by kernel_rfl) (by kernel_rfl) (by kernel_rfl) (fun _ _ h => by obtain ⟨_, _, _, h, _⟩ := h; cases h) (ao (av := slE _ _ _) rfl) ?_) | (refine aA (i := 15) rfl rfl (by kernel_rfl) (by kernel_rfl) (by kernel_rfl) (fun _ _ h => by obtain ⟨_, _, _, h, _⟩ := h; cases h) (ao (av := .v _) rfl) ?_) | (refine aA (i := 15) rfl rfl (by kernel_rfl) (by kernel_rfl) (by kernel_rfl) (fun _ _ h => by obtain ⟨_, _, _, h, _⟩ := h; cases h) (ao (av := .vw _ _ _ _) rfl) ?_)
    show AI _ _ _ _ _ _ #[true, true, true, true, true, true, true, true, true, true, true, true, true, true, true, true] _;refine br rfl <| ah <| ab ?_;show AR _ _ _ _ _ [0, 1, 2, 3, 4, 5] _;refine am rfl rfl ?_
    first | (refine al rfl rfl (ac (av := slE _ _ _) rfl) ?_) | (refine al rfl rfl (ac (av := .v _) rfl) ?_) | (refine al rfl rfl (ac (av := .vw _ _ _ _) rfl) ?_)
    refine am rfl rfl ?_
    first | (refine al rfl rfl (ac (av := .pt _ _) rfl) ?_) | (refine al rfl rfl (ac (av := .cp _) rfl) ?_) | (refine al rfl rfl (ac (av := .v _) rfl) ?_)
    refine am rfl rfl ?_
    first | (refine al rfl rfl (az rfl) ?_) | (refine al rfl rfl (aX rfl) ?_) | (refine al rfl rfl (aW rfl) ?_)
    refine am rfl rfl <| al rfl rfl (au (n := 1) (by kernel_rfl) rfl) <| am rfl rfl ?_
    first | refine al rfl rfl (aU aa rfl rfl) ?_ | refine bS rfl rfl (ak (i := 0) aa rfl rfl rfl rfl) ?_ | refine bS rfl rfl (ak (i := 1) aa rfl rfl rfl rfl) ?_
    refine am rfl rfl ?_
    first | (refine bS rfl rfl (OpS.opR (gN (E := Enc.byte) aa (by kernel_rfl) rfl rfl) _) ?_) | (refine bS rfl rfl (dP (E := Enc.byte) (i := 0) aa (by kernel_rfl) rfl rfl rfl ?h60 ?h61) ?_; (case h60 => (first | omega | (simp; omega))); (case h61 => (first | omega | (simp; omega)))) | (refine bS rfl rfl (dP (E := Enc.byte) (i := 1) aa (by kernel_rfl) rfl rfl rfl ?h62 ?h63) ?_; (case h62 => (first | omega | (simp; omega))); (case h63 => (first | omega | (simp; omega)))) | (refine bS rfl rfl (dU (i := 0) aa (by kernel_rfl) rfl rfl rfl ?h64 ?h65) ?_; (case h64 => (first | omega | (simp; omega))); (case h65 => (first | omega | (simp; omega)))) | (refine bS rfl rfl (dU (i := 1) aa (by kernel_rfl) rfl rfl rfl ?h66 ?h67) ?_; (case h66 => (first | omega | (simp; omega))); (case h67 => (first | omega | (simp; omega))))
    refine ai <| ab ?_;show AR _ _ _ _ _ [0, 1, 2, 3, 4] _;refine am rfl rfl ?_
    first | (refine al rfl rfl (ac (av := .pt _ _) rfl) ?_) | (refine al rfl rfl (ac (av := .cp _) rfl) ?_) | (refine al rfl rfl (ac (av := .v _) rfl) ?_)
    refine am rfl rfl ?_
    first | (refine al rfl rfl (ac (av := slE _ _ _) rfl) ?_) | (refine al rfl rfl (ac (av := .v _) rfl) ?_) | (refine al rfl rfl (ac (av := .vw _ _ _ _) rfl) ?_)
    refine am rfl rfl ?_
    first | (refine al rfl rfl (az rfl) ?_) | (refine al rfl rfl (aX rfl) ?_) | (refine al rfl rfl (aW rfl) ?_)
    refine am rfl rfl <| al rfl rfl (au (n := 1) (by kernel_rfl) rfl) <| am rfl rfl ?_
    first | (refine bU rfl (an (i := 0) (c := slE _ _ _) (by kernel_rfl) rfl rfl rfl rfl ?h69) ?_; (case h69 => (simp))) | (refine bU rfl (an (i := 0) (c := .v _) (by kernel_rfl) rfl rfl rfl rfl ?h70) ?_; (case h70 => (simp))) | (refine bU rfl (an (i := 0) (c := .vw _ _ _ _) (by kernel_rfl) rfl rfl rfl rfl ?h71) ?_; (case h71 => (simp))) | (refine bU rfl (an (i := 1) (c := slE _ _ _) (by kernel_rfl) rfl rfl rfl rfl ?h72) ?_; (case h72 => (simp))) | (refine bU rfl (an (i := 1) (c := .v _) (by kernel_rfl) rfl rfl rfl rfl ?h73) ?_; (case h73 => (simp))) | (refine bU rfl (an (i := 1) (c := .vw _ _ _ _) (by kernel_rfl) rfl rfl rfl rfl ?h74) ?_; (case h74 => (simp)))
    refine ai ?_
    -- END 3 (end)
    show cl _ _ _ _ .normal _;exact ⟨rfl, _, _, df rfl, be _, rfl, t13, rfl⟩
set_option maxRecDepth 100000 in
set_option maxHeartbeats 1000000 in
theorem lr (o : Nat) (a : AV) (ha : a = .v (.pointer none) ∨ a = .pt o 0) (n : Nat) (hn : n ≤ 1000000000) (hz : n = 0) :
    ACalls Tryz.prog 142 [.pt o 0, i64 n] [.obj o [a, ko], .ty o 142] (fun e A' => e = .ret (.tup []) ∧ A' = [.obj o [.pt o 0, ko], .ty o 142]) := by
  refine ax Tryz.func142 rfl rfl ?_;show AW _ _ 25 _ _ _;refine ah <| ab ?_;show AR _ _ _ _ _ [0, 1] _;refine am rfl rfl ?_
  first | (refine al rfl rfl (ac (av := .pt _ _) rfl) ?_) | (refine al rfl rfl (ac (av := .cp _) rfl) ?_) | (refine al rfl rfl (ac (av := .v _) rfl) ?_)
  refine am rfl rfl <| AO.call [] rfl en143 rfl (dh  o a ko ha) ?p1 ?k1 ?q1
  (case p1 => (exact bo _))
  (case q1 => (rintro c A' ⟨h, _⟩; cases h))
  rintro av A' ⟨h, rfl⟩; cases h
  refine ai <| ah <| ah <| ab ?_;show AR _ _ _ _ _ [0, 1] _;refine am rfl rfl <| al rfl rfl (ac (av := .v _) rfl) <| am rfl rfl <| al rfl rfl (bI rfl rfl) <| ai <| aH rfl (fun c1 => ?_) (fun c1 => ?_)
  · have c1p := c1; try simp only [decide_eq_true_eq, decide_eq_false_iff_not, Bool.not_eq_true', Bool.not_eq_false', Bool.not_true, Bool.not_false, Bool.not_eq_eq_eq_not] at c1p
    refine ab ?_;show AR _ _ _ _ _ [0, 1] _;refine am rfl rfl <| al rfl rfl (gw (a := .v _) af rfl rfl) <| am rfl rfl ?_
    exfalso; first | omega | simp_all
  · have c1p := c1; try simp only [decide_eq_true_eq, decide_eq_false_iff_not, Bool.not_eq_true', Bool.not_eq_false', Bool.not_true, Bool.not_false, Bool.not_eq_eq_eq_not] at c1p
    refine aJ <| ah <| bH (by kernel_rfl) ?_;show AI _ _ _ _ _ 13 (Array.replicate 13 false) _
    first | (refine aA (i := 0) rfl rfl (by kernel_rfl) (by kernel_rfl) (by kernel_rfl) (fun _ _ h => by obtain ⟨_, _, _, h, _⟩ := h; cases h) (ac (av := .pt _ _) rfl) ?_) | (refine aA (i := 0) rfl rfl (by kernel_rfl) (by kernel_rfl) (by kernel_rfl) (fun _ _ h => by obtain ⟨_, _, _, h, _⟩ := h; cases h) (ac (av := .cp _) rfl) ?_) | (refine aA (i := 0) rfl rfl (by kernel_rfl) (by kernel_rfl) (by kernel_rfl) (fun _ _ h => by obtain ⟨_, _, _, h, _⟩ := h; cases h) (ac (av := .v _) rfl) ?_)
    show AI _ _ _ _ _ _ #[true, false, false, false, false, false, false, false, false, false, false, false, false] _
    first | (refine aA (i := 1) rfl rfl (by kernel_rfl) (by kernel_rfl) (by kernel_rfl) (fun _ _ h => by obtain ⟨_, _, _, h, _⟩ := h; cases h) (az rfl) ?_) | (refine aA (i := 1) rfl rfl (by kernel_rfl) (by kernel_rfl) (by kernel_rfl) (fun _ _ h => by obtain ⟨_, _, _, h, _⟩ := h; cases h) (aX rfl) ?_) | (refine aA (i := 1) rfl rfl (by kernel_rfl) (by kernel_rfl) (by kernel_rfl) (fun _ _ h => by obtain ⟨_, _, _, h, _⟩ := h; cases h) (aW rfl) ?_)
    show AI _ _ _ _ _ _ #[true, true, false, false, false, false, false, false, false, false, false, false, false] _;refine aA (i := 2) rfl rfl (by kernel_rfl) (by kernel_rfl) (by kernel_rfl) (fun _ _ h => by obtain ⟨_, _, _, h, _⟩ := h; cases h) (au (n := 1) (by kernel_rfl) rfl) ?_;show AI _ _ _ _ _ _ #[true, true, true, false, false, false, false, false, false, false, false, false, false] _
    first | (refine aA (i := 5) rfl rfl (by kernel_rfl) (by kernel_rfl) (by kernel_rfl) (fun _ _ h => by obtain ⟨_, _, _, h, _⟩ := h; cases h) (ac (av := .pt _ _) rfl) ?_) | (refine aA (i := 5) rfl rfl (by kernel_rfl) (by kernel_rfl) (by kernel_rfl) (fun _ _ h => by obtain ⟨_, _, _, h, _⟩ := h; cases h) (ac (av := .cp _) rfl) ?_) | (refine aA (i := 5) rfl rfl (by kernel_rfl) (by kernel_rfl) (by kernel_rfl) (fun _ _ h => by obtain ⟨_, _, _, h, _⟩ := h; cases h) (ac (av := .v _) rfl) ?_)
    show AI _ _ _ _ _ _ #[true, true, true, false, false, true, false, false, false, false, false, false, false] _
    first | (refine aA (i := 6) rfl rfl (by kernel_rfl) (by kernel_rfl) (by kernel_rfl) (fun _ _ h => by obtain ⟨_, _, _, h, _⟩ := h; cases h) (az rfl) ?_) | (refine aA (i := 6) rfl rfl (by kernel_rfl) (by kernel_rfl) (by kernel_rfl) (fun _ _ h => by obtain ⟨_, _, _, h, _⟩ := h; cases h) (aX rfl) ?_) | (refine aA (i := 6) rfl rfl (by kernel_rfl) (by kernel_rfl) (by kernel_rfl) (fun _ _ h => by obtain ⟨_, _, _, h, _⟩ := h; cases h) (aW rfl) ?_)
    show AI _ _ _ _ _ _ #[true, true, true, false, false, true, true, false, false, false, false, false, false] _;refine aA (i := 7) rfl rfl (by kernel_rfl) (by kernel_rfl) (by kernel_rfl) (fun _ _ h => by obtain ⟨_, _, _, h, _⟩ := h; cases h) (au (n := 1) (by kernel_rfl) rfl) ?_;show AI _ _ _ _ _ _ #[true, true, true, false, false, true, true, true, false, false, false, false, false] _;refine aA (i := 11) rfl rfl (by kernel_rfl) (by kernel_rfl) (by kernel_rfl) (fun _ _ h => by obtain ⟨_, _, _, h, _⟩ := h; cases h) (ac (av := .v _) rfl) ?_;show AI _ _ _ _ _ _ #[true, true, true, false, false, true, true, true, false, false, false, true, false] _;refine cD (i := 3) (j := 8) (by kernel_rfl) rfl rfl rfl rfl ?_ ?_
    · first | refine aL rfl (ak (i := 0) aa rfl rfl rfl rfl) ?_ | refine aL rfl (ak (i := 1) aa rfl rfl rfl rfl) ?_
      show AI _ _ _ _ _ _ #[true, true, true, true, false, true, true, true, false, false, false, true, false] _
      first | (refine aA (i := 4) rfl rfl (by kernel_rfl) (by kernel_rfl) (by kernel_rfl) (fun _ _ h => by obtain ⟨_, _, _, h, _⟩ := h; cases h) (eG aa rfl) ?_) | (refine aA (i := 4) rfl rfl (by kernel_rfl) (by kernel_rfl) (by kernel_rfl) (fun _ _ h => by obtain ⟨_, _, _, h, _⟩ := h; cases h) (opS_cap_vw aa rfl) ?_)
      show AI _ _ _ _ _ _ #[true, true, true, true, true, true, true, true, false, false, false, true, false] _;refine aQ (i := 8) (by kernel_rfl) rfl rfl ?_
      first | refine aL rfl (ak (i := 0) aa rfl rfl rfl rfl) ?_ | refine aL rfl (ak (i := 1) aa rfl rfl rfl rfl) ?_
      show AI _ _ _ _ _ _ #[true, true, true, true, true, true, true, true, true, false, false, true, false] _
      first | (refine aA (i := 9) rfl rfl (by kernel_rfl) (by kernel_rfl) (by kernel_rfl) (fun _ _ h => by obtain ⟨_, _, _, h, _⟩ := h; cases h) (aG aa rfl) ?_) | (refine aA (i := 9) rfl rfl (by kernel_rfl) (by kernel_rfl) (by kernel_rfl) (fun _ _ h => by obtain ⟨_, _, _, h, _⟩ := h; cases h) (bO aa rfl) ?_)
      show AI _ _ _ _ _ _ #[true, true, true, true, true, true, true, true, true, true, false, true, false] _
      refine aA (i := 10) rfl rfl (by kernel_rfl) (by kernel_rfl) (by kernel_rfl) (fun _ _ h => by obtain ⟨_, _, _, h, _⟩ := h; cases h) (hC rfl rfl ?h2) ?_; (case h2 => (omega))
      show AI _ _ _ _ _ _ #[true, true, true, true, true, true, true, true, true, true, true, true, false] _;refine aA (i := 12) rfl rfl (by kernel_rfl) (by kernel_rfl) (by kernel_rfl) (fun _ _ h => by obtain ⟨_, _, _, h, _⟩ := h; cases h) (bI rfl rfl) ?_;show AI _ _ _ _ _ _ #[true, true, true, true, true, true, true, true, true, true, true, true, true] _;refine br rfl <| aH rfl (fun c2 => ?_) (fun c2 => ?_)
      · have c2p := c2; try simp only [decide_eq_true_eq, decide_eq_false_iff_not, Bool.not_eq_true', Bool.not_eq_false', Bool.not_true, Bool.not_false, Bool.not_eq_eq_eq_not] at c2p
        refine ab ?_;show AR _ _ _ _ _ [0, 1, 2] _;refine am rfl rfl ?_
        first | (refine al rfl rfl (ac (av := .pt _ _) rfl) ?_) | (refine al rfl rfl (ac (av := .cp _) rfl) ?_) | (refine al rfl rfl (ac (av := .v _) rfl) ?_)
        refine am rfl rfl <| al rfl rfl (ac (av := .v _) rfl) <| am rfl rfl <| AO.call [.ty o 142] rfl en149 rfl (fD  o (.pt o 0) n hn) ?p2 ?k2 ?q2
        (case p2 => (exact bo _))
        (case q2 => (rintro c A' ⟨h, _⟩; cases h))
        rintro av A' ⟨h, t24, rfl⟩; cases h
        refine ai ?_
        -- END 1 (end)
        show cl _ _ _ _ .normal _
        first | exact ⟨rfl, _, _, df rfl, be _, rfl, rfl⟩ | (exfalso; omega)
      · have c2p := c2; try simp only [decide_eq_true_eq, decide_eq_false_iff_not, Bool.not_eq_true', Bool.not_eq_false', Bool.not_true, Bool.not_false, Bool.not_eq_eq_eq_not] at c2p
        refine aJ ?_
        -- END 2 (end)
        show cl _ _ _ _ .normal _
        first | exact ⟨rfl, _, _, df rfl, be _, rfl, rfl⟩ | (exfalso; omega)
    · first | refine aL rfl (ak (i := 0) aa rfl rfl rfl rfl) ?_ | refine aL rfl (ak (i := 1) aa rfl rfl rfl rfl) ?_
      show AI _ _ _ _ _ _ #[true, true, true, false, false, true, true, true, true, false, false, true, false] _
      first | (refine aA (i := 9) rfl rfl (by kernel_rfl) (by kernel_rfl) (by kernel_rfl) (fun _ _ h => by obtain ⟨_, _, _, h, _⟩ := h; cases h) (aG aa rfl) ?_) | (refine aA (i := 9) rfl rfl (by kernel_rfl) (by kernel_rfl) (by kernel_rfl) (fun _ _ h => by obtain ⟨_, _, _, h, _⟩ := h; cases h) (bO aa rfl) ?_)
      show AI _ _ _ _ _ _ #[true, true, true, false, false, true, true, true, true, true, false, true, false] _;refine aQ (i := 3) (by kernel_rfl) rfl rfl ?_
      first | refine aL rfl (ak (i := 0) aa rfl rfl rfl rfl) ?_ | refine aL rfl (ak (i := 1) aa rfl rfl rfl rfl) ?_
      show AI _ _ _ _ _ _ #[true, true, true, true, false, true, true, true, true, true, false, true, false] _
      first | (refine aA (i := 4) rfl rfl (by kernel_rfl) (by kernel_rfl) (by kernel_rfl) (fun _ _ h => by obtain ⟨_, _, _, h, _⟩ := h; cases h) (eG aa rfl) ?_) | (refine aA (i := 4) rfl rfl (by kernel_rfl) (by kernel_rfl) (by kernel_rfl) (fun _ _ h => by obtain ⟨_, _, _, h, _⟩ := h; cases h) (opS_cap_vw aa rfl) ?_)
      show AI _ _ _ _ _ _ #[true, true, true, true, true, true, true, true, true, true, false, true, false] _
      refine aA (i := 10) rfl rfl (by kernel_rfl) (by kernel_rfl) (by kernel_rfl) (fun _ _ h => by obtain ⟨_, _, _, h, _⟩ := h; cases h) (hC rfl rfl ?h4) ?_; (case h4 => (omega))
      show AI _ _ _ _ _ _ #[true, true, true, true, true, true, true, true, true, true, true, true, false] _;refine aA (i := 12) rfl rfl (by kernel_rfl) (by kernel_rfl) (by kernel_rfl) (fun _ _ h => by obtain ⟨_, _, _, h, _⟩ := h; cases h) (bI rfl rfl) ?_;show AI _ _ _ _ _ _ #[true, true, true, true, true, true, true, true, true, true, true, true, true] _;refine br rfl <| aH rfl (fun c3 => ?_) (fun c3 => ?_)
      · have c3p := c3; try simp only [decide_eq_true_eq, decide_eq_false_iff_not, Bool.not_eq_true', Bool.not_eq_false', Bool.not_true, Bool.not_false, Bool.not_eq_eq_eq_not] at c3p
        refine ab ?_;show AR _ _ _ _ _ [0, 1, 2] _;refine am rfl rfl ?_
        first | (refine al rfl rfl (ac (av := .pt _ _) rfl) ?_) | (refine al rfl rfl (ac (av := .cp _) rfl) ?_) | (refine al rfl rfl (ac (av := .v _) rfl) ?_)
        refine am rfl rfl <| al rfl rfl (ac (av := .v _) rfl) <| am rfl rfl <| AO.call [.ty o 142] rfl en149 rfl (fD  o (.pt o 0) n hn) ?p3 ?k3 ?q3
        (case p3 => (exact bo _))
        (case q3 => (rintro c A' ⟨h, _⟩; cases h))
        rintro av A' ⟨h, t24, rfl⟩; cases h
        refine ai ?_
        -- END 3 (end)
        show cl _ _ _ _ .normal _
        first | exact ⟨rfl, _, _, df rfl, be _, rfl, rfl⟩ | (exfalso; omega)
      · have c3p := c3; try simp only [decide_eq_true_eq, decide_eq_false_iff_not, Bool.not_eq_true', Bool.not_eq_false', Bool.not_true, Bool.not_false, Bool.not_eq_eq_eq_not] at c3p
        refine aJ ?_
        -- END 4 (end)
        show cl _ _ _ _ .normal _
        first | exact ⟨rfl, _, _, df rfl, be _, rfl, rfl⟩ | (exfalso; omega)
set_option maxRecDepth 100000 in
set_option maxHeartbeats 1000000 in
theorem lu (o : Nat) (a : AV) (ha : a = .v (.pointer none) ∨ a = .pt o 0) (n : Nat) (hn : n ≤ 1000000000) (hz : 0 < n) :
    ACalls Tryz.prog 142 [.pt o 0, i64 n] [.obj o [a, ko], .ty o 142] (fun e A' => e = .ret (.tup []) ∧ ∃ t', A' = [.tok t' 5, .obj o [.pt o 0, slE Enc.byte [] (some t')], .ty o 142]) := by
  refine ax Tryz.func142 rfl rfl ?_;show AW _ _ 25 _ _ _;refine ah <| ab ?_;show AR _ _ _ _ _ [0, 1] _;refine am rfl rfl ?_
  first | (refine al rfl rfl (ac (av := .pt _ _) rfl) ?_) | (refine al rfl rfl (ac (av := .cp _) rfl) ?_) | (refine al rfl rfl (ac (av := .v _) rfl) ?_)
  refine am rfl rfl <| AO.call [] rfl en143 rfl (dh  o a ko ha) ?p1 ?k1 ?q1
  (case p1 => (exact bo _))
  (case q1 => (rintro c A' ⟨h, _⟩; cases h))
  rintro av A' ⟨h, rfl⟩; cases h
  refine ai <| ah <| ah <| ab ?_;show AR _ _ _ _ _ [0, 1] _;refine am rfl rfl <| al rfl rfl (ac (av := .v _) rfl) <| am rfl rfl <| al rfl rfl (bI rfl rfl) <| ai <| aH rfl (fun c1 => ?_) (fun c1 => ?_)
  · have c1p := c1; try simp only [decide_eq_true_eq, decide_eq_false_iff_not, Bool.not_eq_true', Bool.not_eq_false', Bool.not_true, Bool.not_false, Bool.not_eq_eq_eq_not] at c1p
    refine ab ?_;show AR _ _ _ _ _ [0, 1] _;refine am rfl rfl <| al rfl rfl (gw (a := .v _) af rfl rfl) <| am rfl rfl ?_
    exfalso; first | omega | simp_all
  · have c1p := c1; try simp only [decide_eq_true_eq, decide_eq_false_iff_not, Bool.not_eq_true', Bool.not_eq_false', Bool.not_true, Bool.not_false, Bool.not_eq_eq_eq_not] at c1p
    refine aJ <| ah <| bH (by kernel_rfl) ?_;show AI _ _ _ _ _ 13 (Array.replicate 13 false) _
    first | (refine aA (i := 0) rfl rfl (by kernel_rfl) (by kernel_rfl) (by kernel_rfl) (fun _ _ h => by obtain ⟨_, _, _, h, _⟩ := h; cases h) (ac (av := .pt _ _) rfl) ?_) | (refine aA (i := 0) rfl rfl (by kernel_rfl) (by kernel_rfl) (by kernel_rfl) (fun _ _ h => by obtain ⟨_, _, _, h, _⟩ := h; cases h) (ac (av := .cp _) rfl) ?_) | (refine aA (i := 0) rfl rfl (by kernel_rfl) (by kernel_rfl) (by kernel_rfl) (fun _ _ h => by obtain ⟨_, _, _, h, _⟩ := h; cases h) (ac (av := .v _) rfl) ?_)
    show AI _ _ _ _ _ _ #[true, false, false, false, false, false, false, false, false, false, false, false, false] _
    first | (refine aA (i := 1) rfl rfl (by kernel_rfl) (by kernel_rfl) (by kernel_rfl) (fun _ _ h => by obtain ⟨_, _, _, h, _⟩ := h; cases h) (az rfl) ?_) | (refine aA (i := 1) rfl rfl (by kernel_rfl) (by kernel_rfl) (by kernel_rfl) (fun _ _ h => by obtain ⟨_, _, _, h, _⟩ := h; cases h) (aX rfl) ?_) | (refine aA (i := 1) rfl rfl (by kernel_rfl) (by kernel_rfl) (by kernel_rfl) (fun _ _ h => by obtain ⟨_, _, _, h, _⟩ := h; cases h) (aW rfl) ?_)
    show AI _ _ _ _ _ _ #[true, true, false, false, false, false, false, false, false, false, false, false, false] _;refine aA (i := 2) rfl rfl (by kernel_rfl) (by kernel_rfl) (by kernel_rfl) (fun _ _ h => by obtain ⟨_, _, _, h, _⟩ := h; cases h) (au (n := 1) (by kernel_rfl) rfl) ?_;show AI _ _ _ _ _ _ #[true, true, true, false, false, false, false, false, false, false, false, false, false] _
    first | (refine aA (i := 5) rfl rfl (by kernel_rfl) (by kernel_rfl) (by kernel_rfl) (fun _ _ h => by obtain ⟨_, _, _, h, _⟩ := h; cases h) (ac (av := .pt _ _) rfl) ?_) | (refine aA (i := 5) rfl rfl (by kernel_rfl) (by kernel_rfl) (by kernel_rfl) (fun _ _ h => by obtain ⟨_, _, _, h, _⟩ := h; cases h) (ac (av := .cp _) rfl) ?_) | (refine aA (i := 5) rfl rfl (by kernel_rfl) (by kernel_rfl) (by kernel_rfl) (fun _ _ h => by obtain ⟨_, _, _, h, _⟩ := h; cases h) (ac (av := .v _) rfl) ?_)
    show AI _ _ _ _ _ _ #[true, true, true, false, false, true, false, false, false, false, false, false, false] _
    first | (refine aA (i := 6) rfl rfl (by kernel_rfl) (by kernel_rfl) (by kernel_rfl) (fun _ _ h => by obtain ⟨_, _, _, h, _⟩ := h; cases h) (az rfl) ?_) | (refine aA (i := 6) rfl rfl (by kernel_rfl) (by kernel_rfl) (by kernel_rfl) (fun _ _ h => by obtain ⟨_, _, _, h, _⟩ := h; cases h) (aX rfl) ?_) | (refine aA (i := 6) rfl rfl (by kernel_rfl) (by kernel_rfl) (by kernel_rfl) (fun _ _ h => by obtain ⟨_, _, _, h, _⟩ := h; cases h) (aW rfl) ?_)
    show AI _ _ _ _ _ _ #[true, true, true, false, false, true, true, false, false, false, false, false, false] _;refine aA (i := 7) rfl rfl (by kernel_rfl) (by kernel_rfl) (by kernel_rfl) (fun _ _ h => by obtain ⟨_, _, _, h, _⟩ := h; cases h) (au (n := 1) (by kernel_rfl) rfl) ?_;show AI _ _ _ _ _ _ #[true, true, true, false, false, true, true, true, false, false, false, false, false] _;refine aA (i := 11) rfl rfl (by kernel_rfl) (by kernel_rfl) (by kernel_rfl) (fun _ _ h => by obtain ⟨_, _, _, h, _⟩ := h; cases h) (ac (av := .v _) rfl) ?_;show AI _ _ _ _ _ _ #[true, true, true, false, false, true, true, true, false, false, false, true, false] _;refine cD (i := 3) (j := 8) (by kernel_rfl) rfl rfl rfl rfl ?_ ?_
    · first | refine aL rfl (ak (i := 0) aa rfl rfl rfl rfl) ?_ | refine aL rfl (ak (i := 1) aa rfl rfl rfl rfl) ?_
      show AI _ _ _ _ _ _ #[true, true, true, true, false, true, true, true, false, false, false, true, false] _
      first | (refine aA (i := 4) rfl rfl (by kernel_rfl) (by kernel_rfl) (by kernel_rfl) (fun _ _ h => by obtain ⟨_, _, _, h, _⟩ := h; cases h) (eG aa rfl) ?_) | (refine aA (i := 4) rfl rfl (by kernel_rfl) (by kernel_rfl) (by kernel_rfl) (fun _ _ h => by obtain ⟨_, _, _, h, _⟩ := h; cases h) (opS_cap_vw aa rfl) ?_)
      show AI _ _ _ _ _ _ #[true, true, true, true, true, true, true, true, false, false, false, true, false] _;refine aQ (i := 8) (by kernel_rfl) rfl rfl ?_
      first | refine aL rfl (ak (i := 0) aa rfl rfl rfl rfl) ?_ | refine aL rfl (ak (i := 1) aa rfl rfl rfl rfl) ?_
      show AI _ _ _ _ _ _ #[true, true, true, true, true, true, true, true, true, false, false, true, false] _
      first | (refine aA (i := 9) rfl rfl (by kernel_rfl) (by kernel_rfl) (by kernel_rfl) (fun _ _ h => by obtain ⟨_, _, _, h, _⟩ := h; cases h) (aG aa rfl) ?_) | (refine aA (i := 9) rfl rfl (by kernel_rfl) (by kernel_rfl) (by kernel_rfl) (fun _ _ h => by obtain ⟨_, _, _, h, _⟩ := h; cases h) (bO aa rfl) ?_)
      show AI _ _ _ _ _ _ #[true, true, true, true, true, true, true, true, true, true, false, true, false] _
      refine aA (i := 10) rfl rfl (by kernel_rfl) (by kernel_rfl) (by kernel_rfl) (fun _ _ h => by obtain ⟨_, _, _, h, _⟩ := h; cases h) (hC rfl rfl ?h2) ?_; (case h2 => (omega))
      show AI _ _ _ _ _ _ #[true, true, true, true, true, true, true, true, true, true, true, true, false] _;refine aA (i := 12) rfl rfl (by kernel_rfl) (by kernel_rfl) (by kernel_rfl) (fun _ _ h => by obtain ⟨_, _, _, h, _⟩ := h; cases h) (bI rfl rfl) ?_;show AI _ _ _ _ _ _ #[true, true, true, true, true, true, true, true, true, true, true, true, true] _;refine br rfl <| aH rfl (fun c2 => ?_) (fun c2 => ?_)
      · have c2p := c2; try simp only [decide_eq_true_eq, decide_eq_false_iff_not, Bool.not_eq_true', Bool.not_eq_false', Bool.not_true, Bool.not_false, Bool.not_eq_eq_eq_not] at c2p
        refine ab ?_;show AR _ _ _ _ _ [0, 1, 2] _;refine am rfl rfl ?_
        first | (refine al rfl rfl (ac (av := .pt _ _) rfl) ?_) | (refine al rfl rfl (ac (av := .cp _) rfl) ?_) | (refine al rfl rfl (ac (av := .v _) rfl) ?_)
        refine am rfl rfl <| al rfl rfl (ac (av := .v _) rfl) <| am rfl rfl <| AO.call [.ty o 142] rfl en149 rfl (fD  o (.pt o 0) n hn) ?p2 ?k2 ?q2
        (case p2 => (exact bo _))
        (case q2 => (rintro c A' ⟨h, _⟩; cases h))
        rintro av A' ⟨h, t24, rfl⟩; cases h
        refine ai ?_
        -- END 1 (end)
        show cl _ _ _ _ .normal _
        first | exact ⟨rfl, _, _, df rfl, be _, rfl, t24, rfl⟩ | (exfalso; omega)
      · have c2p := c2; try simp only [decide_eq_true_eq, decide_eq_false_iff_not, Bool.not_eq_true', Bool.not_eq_false', Bool.not_true, Bool.not_false, Bool.not_eq_eq_eq_not] at c2p
        refine aJ ?_
        -- END 2 (end)
        show cl _ _ _ _ .normal _
        first | exact ⟨rfl, _, _, df rfl, be _, rfl, t24, rfl⟩ | (exfalso; omega)
    · first | refine aL rfl (ak (i := 0) aa rfl rfl rfl rfl) ?_ | refine aL rfl (ak (i := 1) aa rfl rfl rfl rfl) ?_
      show AI _ _ _ _ _ _ #[true, true, true, false, false, true, true, true, true, false, false, true, false] _
      first | (refine aA (i := 9) rfl rfl (by kernel_rfl) (by kernel_rfl) (by kernel_rfl) (fun _ _ h => by obtain ⟨_, _, _, h, _⟩ := h; cases h) (aG aa rfl) ?_) | (refine aA (i := 9) rfl rfl (by kernel_rfl) (by kernel_rfl) (by kernel_rfl) (fun _ _ h => by obtain ⟨_, _, _, h, _⟩ := h; cases h) (bO aa rfl) ?_)
      show AI _ _ _ _ _ _ #[true, true, true, false, false, true, true, true, true, true, false, true, false] _;refine aQ (i := 3) (by kernel_rfl) rfl rfl ?_
      first | refine aL rfl (ak (i := 0) aa rfl rfl rfl rfl) ?_ | refine aL rfl (ak (i := 1) aa rfl rfl rfl rfl) ?_
      show AI _ _ _ _ _ _ #[true, true, true, true, false, true, true, true, true, true, false, true, false] _
      first | (refine aA (i := 4) rfl rfl (by kernel_rfl) (by kernel_rfl) (by kernel_rfl) (fun _ _ h => by obtain ⟨_, _, _, h, _⟩ := h; cases h) (eG aa rfl) ?_) | (refine aA (i := 4) rfl rfl (by kernel_rfl) (by kernel_rfl) (by kernel_rfl) (fun _ _ h => by obtain ⟨_, _, _, h, _⟩ := h; cases h) (opS_cap_vw aa rfl) ?_)
      show AI _ _ _ _ _ _ #[true, true, true, true, true, true, true, true, true, true, false, true, false] _
      refine aA (i := 10) rfl rfl (by kernel_rfl) (by kernel_rfl) (by kernel_rfl) (fun _ _ h => by obtain ⟨_, _, _, h, _⟩ := h; cases h) (hC rfl rfl ?h4) ?_; (case h4 => (omega))
      show AI _ _ _ _ _ _ #[true, true, true, true, true, true, true, true, true, true, true, true, false] _;refine aA (i := 12) rfl rfl (by kernel_rfl) (by kernel_rfl) (by kernel_rfl) (fun _ _ h => by obtain ⟨_, _, _, h, _⟩ := h; cases h) (bI rfl rfl) ?_;show AI _ _ _ _ _ _ #[true, true, true, true, true, true, true, true, true, true, true, true, true] _;refine br rfl <| aH rfl (fun c3 => ?_) (fun c3 => ?_)
      · have c3p := c3; try simp only [decide_eq_true_eq, decide_eq_false_iff_not, Bool.not_eq_true', Bool.not_eq_false', Bool.not_true, Bool.not_false, Bool.not_eq_eq_eq_not] at c3p
        refine ab ?_;show AR _ _ _ _ _ [0, 1, 2] _;refine am rfl rfl ?_
        first | (refine al rfl rfl (ac (av := .pt _ _) rfl) ?_) | (refine al rfl rfl (ac (av := .cp _) rfl) ?_) | (refine al rfl rfl (ac (av := .v _) rfl) ?_)
        refine am rfl rfl <| al rfl rfl (ac (av := .v _) rfl) <| am rfl rfl <| AO.call [.ty o 142] rfl en149 rfl (fD  o (.pt o 0) n hn) ?p3 ?k3 ?q3
        (case p3 => (exact bo _))
        (case q3 => (rintro c A' ⟨h, _⟩; cases h))
        rintro av A' ⟨h, t24, rfl⟩; cases h
        refine ai ?_
        -- END 3 (end)
        show cl _ _ _ _ .normal _
        first | exact ⟨rfl, _, _, df rfl, be _, rfl, t24, rfl⟩ | (exfalso; omega)
      · have c3p := c3; try simp only [decide_eq_true_eq, decide_eq_false_iff_not, Bool.not_eq_true', Bool.not_eq_false', Bool.not_true, Bool.not_false, Bool.not_eq_eq_eq_not] at c3p
        refine aJ ?_
        -- END 4 (end)
        show cl _ _ _ _ .normal _
        first | exact ⟨rfl, _, _, df rfl, be _, rfl, t24, rfl⟩ | (exfalso; omega)
theorem mA (o : Nat) (a : AV) (ha : a = .v (.pointer none) ∨ a = .pt o 0) (n : Nat) (hn : n ≤ 1000000000) : ACalls Tryz.prog 142 [.pt o 0, i64 n] [.obj o [a, ko], .ty o 142] (fun e A' => e = .ret (.tup []) ∧ ∃ t', A' = [.tok t' 5, .obj o [.pt o 0, slE Enc.byte [] (some t')], .ty o 142]) := by
  by_cases hz : n = 0
  · refine (lr  o a ha n hn hz).conv fun ae A' h F I w hI => ?_
    obtain ⟨h1, rfl⟩ := h;obtain ⟨I', t, E, hI'⟩ := oE hI 1 1 5 rfl;exact ⟨I', _, E, hI', h1, t, rfl⟩
  · exact lu  o a ha n hn (by omega)
end Go.Proofs.YtdaafnaokdigbaaGreatDoor
namespace Go.Proofs.YtdaafnaokdigbaaGreatDoor
open Go.RowKit Go.Av
abbrev _root_.Go.Av.ar := @Tryz.underlying22
set_option maxRecDepth 100000 in
set_option maxHeartbeats 1000000 in
theorem nd (l : List (List UInt8)) (sep : List UInt8) (tl : Option Nat) (hb : sep.length * l.length + Str.total l ≤ 1000000000) (hl : l.length ≤ 1000000000) :
    ACalls Tryz.prog 126 [slE Enc.str l tl, S sep] [] (Ret (S (Str.join sep l)) []) := by
  refine ax Tryz.func126 rfl rfl ?_;show AW _ _ 75 _ _ _;refine ah <| ab ?_;show AR _ _ _ _ _ [0] _;refine am rfl rfl <| al rfl rfl (ao (av := .v _) rfl) <| ai <| ah <| ah <| ab ?_;show AR _ _ _ _ _ [0, 1] _;refine am rfl rfl ?_
  first | (refine al rfl rfl (ac (av := slE _ _ _) rfl) ?_) | (refine al rfl rfl (ac (av := .v _) rfl) ?_) | (refine al rfl rfl (ac (av := .vw _ _ _ _) rfl) ?_)
  refine am rfl rfl ?_
  first | (refine al rfl rfl (aG ar rfl) ?_) | (refine al rfl rfl (bO ar rfl) ?_)
  refine ai <| aO <| ah <| ab ?_;show AR _ _ _ _ _ [0, 1] _;refine am rfl rfl <| al rfl rfl (dv rfl rfl) <| am rfl rfl <| al rfl rfl (ao (av := .v _) rfl) <| ai <| aH rfl (fun c1 => ?_) (fun c1 => ?_)
  · have c1p := c1; try simp only [decide_eq_true_eq, decide_eq_false_iff_not, Bool.not_eq_true', Bool.not_eq_false', Bool.not_true, Bool.not_false, Bool.not_eq_eq_eq_not] at c1p
    refine ah <| ab ?_;show AR _ _ _ _ _ [0] _;refine am rfl rfl <| al rfl rfl (ao (av := .v _) rfl) <| ai <| aP ?_
    -- END 1 (ret)
    show cl _ _ _ _ .ret _
    have h0 : l = [] := List.length_eq_zero_iff.1 (by omega)
    subst h0
    (refine ⟨rfl, _, _, aR rfl ?_, ?_, ⟨rfl, rfl⟩⟩; all_goals first | exact be _ | exact bW _ | ((repeat (first | exact be _ | exact bW _ | refine cR _ ?_ | refine cQ _ ?_)); done) | exact Wv.refl _ | exact Wv.tok _ _ _ | exact Wv.nil _)
  · have c1p := c1; try simp only [decide_eq_true_eq, decide_eq_false_iff_not, Bool.not_eq_true', Bool.not_eq_false', Bool.not_true, Bool.not_false, Bool.not_eq_eq_eq_not] at c1p
    refine ah <| ab ?_;show AR _ _ _ _ _ [0, 1] _;refine am rfl rfl <| al rfl rfl (dv rfl rfl) <| am rfl rfl <| al rfl rfl (ao (av := .v _) rfl) <| ai <| aH rfl (fun c2 => ?_) (fun c2 => ?_)
    · have c2p := c2; try simp only [decide_eq_true_eq, decide_eq_false_iff_not, Bool.not_eq_true', Bool.not_eq_false', Bool.not_true, Bool.not_false, Bool.not_eq_eq_eq_not] at c2p
      refine ah <| ab ?_;show AR _ _ _ _ _ [0, 1, 2, 3] _;refine am rfl rfl ?_
      first | (refine al rfl rfl (ac (av := slE _ _ _) rfl) ?_) | (refine al rfl rfl (ac (av := .v _) rfl) ?_) | (refine al rfl rfl (ac (av := .vw _ _ _ _) rfl) ?_)
      refine am rfl rfl <| al rfl rfl (dQ (m := 0) ar (by kernel_rfl) rfl rfl ?h1 ?h2) ?_
      (case h1 => (omega))
      (case h2 => (omega))
      refine am rfl rfl ?_
      first | refine al rfl rfl (aU af rfl rfl) ?_ | refine bS rfl rfl (ak (i := 0) af rfl rfl rfl rfl) ?_ | refine bS rfl rfl (ak (i := 1) af rfl rfl rfl rfl) ?_ | refine bS rfl rfl (ak (i := 2) af rfl rfl rfl rfl) ?_ | refine bS rfl rfl (ak (i := 3) af rfl rfl rfl rfl) ?_
      refine am rfl rfl <| al rfl rfl (ao (av := .v _) rfl) <| ai <| aP ?_
      -- END 2 (ret)
      show cl _ _ _ _ .ret _
      rw [Str.join_one sep l (by omega) (by omega)]
      (refine ⟨rfl, _, _, aR rfl ?_, ?_, ⟨rfl, rfl⟩⟩; all_goals first | exact be _ | exact bW _ | ((repeat (first | exact be _ | exact bW _ | refine cR _ ?_ | refine cQ _ ?_)); done) | exact Wv.refl _ | exact Wv.tok _ _ _ | exact Wv.nil _)
    · have c2p := c2; try simp only [decide_eq_true_eq, decide_eq_false_iff_not, Bool.not_eq_true', Bool.not_eq_false', Bool.not_true, Bool.not_false, Bool.not_eq_eq_eq_not] at c2p
      have hl2 : 2 ≤ l.length := by omega
      have hm := Str.mul_bounds sep.length l.length 1000000000 (by omega) (by omega)
      refine aJ <| ah <| ab ?_;show AR _ _ _ _ _ [0] _;refine am rfl rfl <| al rfl rfl (ao (av := .v _) rfl) <| ai <| bP (X := Nat) (fun n0 => ⟨[(0, slE Enc.str l tl), (1, S sep), (5, i64 n0)], [], []⟩) (fun n0 => n0 ≤ sep.length * l.length) ?_ ?_
      · refine ah <| ab ?_;show AR _ _ _ _ _ [0, 1, 2] _;refine am rfl rfl <| al rfl rfl (ac (av := .v _) rfl) <| am rfl rfl <| al rfl rfl (bg af rfl) <| am rfl rfl <| al rfl rfl (cF rfl rfl) <| ai <| aH rfl (fun c3 => ?_) (fun c3 => ?_)
        · have c3p := c3; try simp only [decide_eq_true_eq, decide_eq_false_iff_not, Bool.not_eq_true', Bool.not_eq_false', Bool.not_true, Bool.not_false, Bool.not_eq_eq_eq_not] at c3p
          refine ah <| ah <| ab ?_;show AR _ _ _ _ _ [0, 1, 2, 3, 4, 5, 6] _;refine am rfl rfl <| al rfl rfl (ac (av := .v _) rfl) <| am rfl rfl <| al rfl rfl (bg af rfl) <| am rfl rfl ?_
          first | (refine al rfl rfl (ac (av := slE _ _ _) rfl) ?_) | (refine al rfl rfl (ac (av := .v _) rfl) ?_) | (refine al rfl rfl (ac (av := .vw _ _ _ _) rfl) ?_)
          refine am rfl rfl ?_
          first | (refine al rfl rfl (aG ar rfl) ?_) | (refine al rfl rfl (bO ar rfl) ?_)
          refine am rfl rfl <| al rfl rfl (hC rfl rfl ?h4) ?_
          (case h4 => (omega))
          refine am rfl rfl <| al rfl rfl (qz rfl rfl ?h6) ?_
          (case h6 => (omega))
          refine am rfl rfl <| al rfl rfl (gm rfl rfl) <| ai <| aH rfl (fun c4 => ?_) (fun c4 => ?_)
          · have c4p := c4; try simp only [decide_eq_true_eq, decide_eq_false_iff_not, Bool.not_eq_true', Bool.not_eq_false', Bool.not_true, Bool.not_false, Bool.not_eq_eq_eq_not] at c4p
            exact absurd c4p (Str.quo_great _ _ 0 (by omega) (by omega) hl)
          · have c4p := c4; try simp only [decide_eq_true_eq, decide_eq_false_iff_not, Bool.not_eq_true', Bool.not_eq_false', Bool.not_true, Bool.not_false, Bool.not_eq_eq_eq_not] at c4p
            refine aJ <| ab ?_;show AR _ _ _ _ _ [0, 1, 2, 3, 4, 5, 6, 7, 8] _;refine am rfl rfl <| al rfl rfl (ac (av := .v _) rfl) <| am rfl rfl <| al rfl rfl (ac (av := .v _) rfl) <| am rfl rfl <| al rfl rfl (bg af rfl) <| am rfl rfl ?_
            first | (refine al rfl rfl (ac (av := slE _ _ _) rfl) ?_) | (refine al rfl rfl (ac (av := .v _) rfl) ?_) | (refine al rfl rfl (ac (av := .vw _ _ _ _) rfl) ?_)
            refine am rfl rfl ?_
            first | (refine al rfl rfl (aG ar rfl) ?_) | (refine al rfl rfl (bO ar rfl) ?_)
            refine am rfl rfl <| al rfl rfl (hC rfl rfl ?h8) ?_
            (case h8 => (omega))
            refine am rfl rfl <| al rfl rfl (lb rfl rfl ?h10) ?_
            (case h10 => (omega))
            refine am rfl rfl <| al rfl rfl (iP rfl rfl ?h12) ?_
            (case h12 => (omega))
            refine am rfl rfl <| al rfl rfl (ao (av := .v _) rfl) <| ai ?_
            -- END 3 (cut('p', 7))
            refine ⟨(sep.length * (l.length - 1)), ?_, ?_⟩
            · exact Nat.mul_le_mul_left _ (by omega)
            · refine WK.env (bb ?_ (bb ?_ (bb ?_ (Env.le.nil _)))) ?_
              all_goals first | exact be _ | exact bW _ | ((repeat (first | exact be _ | exact bW _ | refine cR _ ?_ | refine cQ _ ?_)); done) | exact Wv.refl _ | exact Wv.any _ | exact Wv.tok _ _ _ | exact Wv.nil _ | (refine Wv.of_eq ?_; first | rfl | exact ft (by omega) | (exact ft (Str.mul_cast _ _ (by omega))))
        · have c3p := c3; try simp only [decide_eq_true_eq, decide_eq_false_iff_not, Bool.not_eq_true', Bool.not_eq_false', Bool.not_true, Bool.not_false, Bool.not_eq_eq_eq_not] at c3p
          refine aJ ?_
          -- END 4 (cut('p', 7))
          refine ⟨0, ?_, ?_⟩
          · exact Nat.zero_le _
          · refine WK.env (bb ?_ (bb ?_ (bb ?_ (Env.le.nil _)))) ?_
            all_goals first | exact be _ | exact bW _ | ((repeat (first | exact be _ | exact bW _ | refine cR _ ?_ | refine cQ _ ?_)); done) | exact Wv.refl _ | exact Wv.any _ | exact Wv.tok _ _ _ | exact Wv.nil _ | (refine Wv.of_eq ?_; first | rfl | exact ft (by omega) | (simp))
      · rintro n0 hn0
        refine ah <| ah <| ab ?_;show AR _ _ _ _ _ [0, 1, 2] _;refine am rfl rfl ?_
        first | (refine al rfl rfl (ac (av := slE _ _ _) rfl) ?_) | (refine al rfl rfl (ac (av := .v _) rfl) ?_) | (refine al rfl rfl (ac (av := .vw _ _ _ _) rfl) ?_)
        refine am rfl rfl ?_
        first | (refine al rfl rfl (aG ar rfl) ?_) | (refine al rfl rfl (bO ar rfl) ?_)
        refine am rfl rfl <| al rfl rfl (ac (av := .v _) rfl) <| ai <| aO <| bZ (X := Nat × Nat) (fun (i, n) => ⟨[(0, slE Enc.str l tl), (1, S sep), (5, i64 n), (39, slE Enc.str l tl), (40, i64 l.length), (41, i64 i)], [], []⟩) (fun (i, n) => i ≤ l.length ∧ n + Str.total (l.drop i) ≤ 1000000000) (fun (i, n) => l.length - i) (0, n0) ?_ ?_ ?_
        · exact ⟨by omega, by simp; omega⟩
        · refine WK.env (bb ?_ (bb ?_ (bb ?_ (bb ?_ (bb ?_ (bb ?_ (Env.le.nil _))))))) ?_
          all_goals first | exact be _ | exact bW _ | ((repeat (first | exact be _ | exact bW _ | refine cR _ ?_ | refine cQ _ ?_)); done) | exact Wv.refl _ | exact Wv.any _ | exact Wv.tok _ _ _ | exact Wv.nil _ | (refine Wv.of_eq ?_; first | rfl | exact ft (by omega) | (simp))
        · rintro ⟨i, n⟩ ⟨h1, h2⟩
          refine ah <| ab ?_;show AR _ _ _ _ _ [0] _;refine am rfl rfl <| al rfl rfl (bI rfl rfl) <| ai <| ah <| aH rfl (fun c5 => ?_) (fun c5 => ?_)
          · have c5p := c5; try simp only [decide_eq_true_eq, decide_eq_false_iff_not, Bool.not_eq_true', Bool.not_eq_false', Bool.not_true, Bool.not_false, Bool.not_eq_eq_eq_not] at c5p
            refine aJ <| ah <| aO <| ah <| ab ?_;show AR _ _ _ _ _ [0, 1, 2] _;refine am rfl rfl <| al rfl rfl (dQ ar (by kernel_rfl) rfl rfl rfl ?h13) ?_
            (case h13 => (omega))
            refine am rfl rfl ?_
            first | refine al rfl rfl (aU af rfl rfl) ?_ | refine bS rfl rfl (ak (i := 0) af rfl rfl rfl rfl) ?_ | refine bS rfl rfl (ak (i := 1) af rfl rfl rfl rfl) ?_ | refine bS rfl rfl (ak (i := 2) af rfl rfl rfl rfl) ?_ | refine bS rfl rfl (ak (i := 3) af rfl rfl rfl rfl) ?_
            refine am rfl rfl <| al rfl rfl (ao (av := .v _) rfl) <| ai <| ah <| ah <| ab ?_;show AR _ _ _ _ _ [0, 1, 2, 3, 4] _;refine am rfl rfl <| al rfl rfl (ac (av := .v _) rfl) <| am rfl rfl <| al rfl rfl (bg af rfl) <| am rfl rfl <| al rfl rfl (ac (av := .v _) rfl) <| am rfl rfl <| al rfl rfl (hC rfl rfl ?h15) ?_
            (case h15 => (omega))
            refine am rfl rfl <| al rfl rfl (cF rfl rfl) <| ai <| aH rfl (fun c6 => ?_) (fun c6 => ?_)
            · have c6p := c6; try simp only [decide_eq_true_eq, decide_eq_false_iff_not, Bool.not_eq_true', Bool.not_eq_false', Bool.not_true, Bool.not_false, Bool.not_eq_eq_eq_not] at c6p
              exfalso; have := Str.total_drop l i (by omega); omega
            · have c6p := c6; try simp only [decide_eq_true_eq, decide_eq_false_iff_not, Bool.not_eq_true', Bool.not_eq_false', Bool.not_true, Bool.not_false, Bool.not_eq_eq_eq_not] at c6p
              refine aJ <| ab ?_;show AR _ _ _ _ _ [0, 1, 2, 3, 4] _;refine am rfl rfl <| al rfl rfl (ac (av := .v _) rfl) <| am rfl rfl <| al rfl rfl (ac (av := .v _) rfl) <| am rfl rfl <| al rfl rfl (bg af rfl) <| am rfl rfl <| al rfl rfl (iP rfl rfl ?h17) ?_
              (case h17 => (omega))
              refine am rfl rfl <| al rfl rfl (ao (av := .v _) rfl) <| ai <| ab ?_;show AR _ _ _ _ _ [0, 1] _;refine am rfl rfl <| al rfl rfl (iP rfl rfl ?h19) ?_
              (case h19 => (omega))
              refine am rfl rfl <| al rfl rfl (ac (av := .v _) rfl) <| ai ?_
              -- END 5 (loop1)
              refine ⟨(i + 1, n + l[i].length), ?_, ?_, ?_⟩
              · exact ⟨by omega, by have := Str.total_drop l i (by omega); omega⟩
              · (try simp only []); omega
              · refine WK.env (bb ?_ (bb ?_ (bb ?_ (bb ?_ (bb ?_ (bb ?_ (Env.le.nil _))))))) ?_
                all_goals first | exact be _ | exact bW _ | ((repeat (first | exact be _ | exact bW _ | refine cR _ ?_ | refine cQ _ ?_)); done) | exact Wv.refl _ | exact Wv.any _ | exact Wv.tok _ _ _ | exact Wv.nil _ | (refine Wv.of_eq ?_; first | rfl | exact ft (by omega) | (simp))
          · have c5p := c5; try simp only [decide_eq_true_eq, decide_eq_false_iff_not, Bool.not_eq_true', Bool.not_eq_false', Bool.not_true, Bool.not_false, Bool.not_eq_eq_eq_not] at c5p
            refine bQ <| ah <| ab ?_;show AR _ _ _ _ _ [0] _;refine am rfl rfl <| AO.opx rfl rfl (jN (zs := [.pointer none, .slice none 0 0]) (by kernel_rfl)) ?_;rintro _ _ ⟨o8, rfl, rfl⟩;refine ai <| ah <| ab ?_;show AR _ _ _ _ _ [0, 1] _;refine am rfl rfl <| al rfl rfl (ac (av := .v _) rfl) <| am rfl rfl <| AO.call [] rfl en142 rfl (mA o8 (.v (.pointer none)) (.inl rfl) n (by omega)) ?p1 ?k1 ?q1
            (case p1 => (exact bo _))
            (case q1 => (rintro c A' ⟨h, _⟩; cases h))
            rintro av A' ⟨h, t57, rfl⟩; cases h
            refine ai <| ah <| ab ?_;show AR _ _ _ _ _ [0, 1, 2, 3] _;refine am rfl rfl ?_
            first | (refine al rfl rfl (ac (av := slE _ _ _) rfl) ?_) | (refine al rfl rfl (ac (av := .v _) rfl) ?_) | (refine al rfl rfl (ac (av := .vw _ _ _ _) rfl) ?_)
            refine am rfl rfl <| al rfl rfl (dQ (m := 0) ar (by kernel_rfl) rfl rfl ?h20 ?h21) ?_
            (case h20 => (omega))
            (case h21 => (omega))
            refine am rfl rfl ?_
            first | refine al rfl rfl (aU af rfl rfl) ?_ | refine bS rfl rfl (ak (i := 0) af rfl rfl rfl rfl) ?_ | refine bS rfl rfl (ak (i := 1) af rfl rfl rfl rfl) ?_ | refine bS rfl rfl (ak (i := 2) af rfl rfl rfl rfl) ?_ | refine bS rfl rfl (ak (i := 3) af rfl rfl rfl rfl) ?_
            refine am rfl rfl <| AO.call [] rfl en127 rfl (cN o8 _ (.inr rfl) [] l[0] t57 (by have := Str.total_drop l 0 (by omega); simp at this ⊢; omega)) ?p2 ?k2 ?q2
            (case p2 => (exact List.Perm.trans (List.Perm.swap _ _ _) ((List.Perm.swap _ _ _).cons _)))
            (case q2 => (rintro c A' ⟨h, _⟩; cases h))
            rintro av A' ⟨h, t61, rfl⟩; cases h
            refine ai <| ah <| ah <| ab ?_;show AR _ _ _ _ _ [0, 1, 2, 3] _;refine am rfl rfl ?_
            first | (refine al rfl rfl (ac (av := slE _ _ _) rfl) ?_) | (refine al rfl rfl (ac (av := .v _) rfl) ?_) | (refine al rfl rfl (ac (av := .vw _ _ _ _) rfl) ?_)
            refine am rfl rfl <| al rfl rfl (gu (lo := 1) ar (by kernel_rfl) rfl rfl ?h23 ?h24) ?_
            (case h23 => (omega))
            (case h24 => (first | omega | (simp; done) | (simp; omega)))
            refine am rfl rfl ?_
            first | (refine al rfl rfl (aG ar rfl) ?_) | (refine al rfl rfl (bO ar rfl) ?_)
            refine am rfl rfl <| al rfl rfl (ac (av := .v _) rfl) <| ai <| aO <| bZ (X := Nat × List UInt8 × Nat) (fun (i, out, t) => ⟨[(0, slE Enc.str l tl), (1, S sep), (8, .pt o8 0), (63, slE Enc.str (l.drop 1) none), (64, i64 ((l.drop 1).length : Nat)), (65, i64 i)], [], [.obj o8 [.pt o8 0, slE Enc.byte out (some t)], .ty o8 142, .tok t 5]⟩) (fun (i, out, t) => i ≤ l.length - 1 ∧ out ++ Str.rest sep (l.drop (i + 1)) = Str.join sep l) (fun (i, out, t) => l.length - i) (0, l[0], t61) ?_ ?_ ?_
            · exact ⟨by omega, (Str.join_at sep l (by omega)).symm⟩
            · refine WK.env (bb ?_ (bb ?_ (bb ?_ (bb ?_ (bb ?_ (bb ?_ (Env.le.nil _))))))) ?_
              all_goals first | exact be _ | exact bW _ | ((repeat (first | exact be _ | exact bW _ | refine cR _ ?_ | refine cQ _ ?_)); done) | exact Wv.refl _ | exact Wv.any _ | exact Wv.tok _ _ _ | exact Wv.nil _ | (refine Wv.of_eq ?_; first | rfl | exact ft (by omega) | (simp))
            · rintro ⟨i, out, t⟩ ⟨h1, h2⟩
              refine ah <| ab ?_;show AR _ _ _ _ _ [0] _;refine am rfl rfl <| al rfl rfl (bI rfl rfl) <| ai <| ah <| aH rfl (fun c7 => ?_) (fun c7 => ?_)
              · have c7p := c7; try simp only [decide_eq_true_eq, decide_eq_false_iff_not, Bool.not_eq_true', Bool.not_eq_false', Bool.not_true, Bool.not_false, Bool.not_eq_eq_eq_not] at c7p
                have hd : (l.drop 1).length = l.length - 1 := by simp
                have hi : i < (l.drop 1).length := by omega
                have hroom := Str.room sep out l (i + 1) (by omega) h2 hb
                refine aJ <| ah <| aO <| ah <| ab ?_;show AR _ _ _ _ _ [0, 1, 2] _;refine am rfl rfl <| al rfl rfl (dQ ar (by kernel_rfl) rfl rfl rfl ?h25) ?_
                (case h25 => (omega))
                refine am rfl rfl ?_
                first | refine al rfl rfl (aU af rfl rfl) ?_ | refine bS rfl rfl (ak (i := 0) af rfl rfl rfl rfl) ?_ | refine bS rfl rfl (ak (i := 1) af rfl rfl rfl rfl) ?_ | refine bS rfl rfl (ak (i := 2) af rfl rfl rfl rfl) ?_ | refine bS rfl rfl (ak (i := 3) af rfl rfl rfl rfl) ?_
                refine am rfl rfl <| al rfl rfl (ao (av := .v _) rfl) <| ai <| ah <| ab ?_;show AR _ _ _ _ _ [0, 1] _;refine am rfl rfl <| al rfl rfl (ac (av := .v _) rfl) <| am rfl rfl <| AO.call [] rfl en127 rfl (cN o8 _ (.inr rfl) out sep t (by omega)) ?p3 ?k3 ?q3
                (case p3 => (exact bo _))
                (case q3 => (rintro c A' ⟨h, _⟩; cases h))
                rintro av A' ⟨h, t70, rfl⟩; cases h
                refine ai <| ab ?_;show AR _ _ _ _ _ [0, 1] _;refine am rfl rfl <| al rfl rfl (ac (av := .v _) rfl) <| am rfl rfl <| AO.call [] rfl en127 rfl (cN o8 _ (.inr rfl) (out ++ sep) (l.drop 1)[i] t70 (by simp [List.getElem_drop, Nat.add_comm 1 i] at *; omega)) ?p4 ?k4 ?q4
                (case p4 => (exact bo _))
                (case q4 => (rintro c A' ⟨h, _⟩; cases h))
                rintro av A' ⟨h, t72, rfl⟩; cases h
                refine ai <| ab ?_;show AR _ _ _ _ _ [0, 1] _;refine am rfl rfl <| al rfl rfl (iP rfl rfl ?h27) ?_
                (case h27 => (omega))
                refine am rfl rfl <| al rfl rfl (ac (av := .v _) rfl) <| ai ?_
                -- END 6 (loop2)
                refine ⟨(i + 1, out ++ sep ++ (l.drop 1)[i], t72), ?_, ?_, ?_⟩
                · refine ⟨by omega, ?_⟩
                  rw [← h2, Str.rest_drop sep l (i + 1) (by omega)]
                  simp [List.getElem_drop, Nat.add_comm]
                · (try simp only []); omega
                · refine WK.env (bb ?_ (bb ?_ (bb ?_ (bb ?_ (bb ?_ (bb ?_ (Env.le.nil _))))))) ?_
                  all_goals first | exact be _ | exact bW _ | ((repeat (first | exact be _ | exact bW _ | refine cR _ ?_ | refine cQ _ ?_)); done) | exact Wv.refl _ | exact Wv.any _ | exact Wv.tok _ _ _ | exact Wv.nil _ | (refine Wv.of_eq ?_; first | rfl | exact ft (by omega) | (simp))
              · have c7p := c7; try simp only [decide_eq_true_eq, decide_eq_false_iff_not, Bool.not_eq_true', Bool.not_eq_false', Bool.not_true, Bool.not_false, Bool.not_eq_eq_eq_not] at c7p
                have hd : (l.drop 1).length = l.length - 1 := by simp
                have hroom := Str.out_room sep out _ l h2 hb
                refine bQ <| ah <| ab ?_;show AR _ _ _ _ _ [0, 1] _;refine am rfl rfl <| AO.call [.ty o8 142] rfl en128 rfl (fO o8 (.pt o8 0) out t (by omega)) ?p5 ?k5 ?q5
                (case p5 => (exact (List.Perm.swap _ _ _).cons _))
                (case q5 => (rintro c A' ⟨h, _⟩; cases h))
                rintro av A' ⟨h, rfl⟩; cases h
                refine am rfl rfl <| al rfl rfl (ao (av := .v _) rfl) <| ai <| aP ?_
                -- END 7 (ret)
                show cl _ _ _ _ .ret _
                rw [Str.rest_end sep l (i + 1) (by omega), List.append_nil] at h2
                rw [← h2]
                (refine ⟨rfl, _, _, aR rfl ?_, ?_, ⟨rfl, rfl⟩⟩; all_goals first | exact be _ | exact bW _ | ((repeat (first | exact be _ | exact bW _ | refine cR _ ?_ | refine cQ _ ?_)); done) | exact Wv.refl _ | exact Wv.tok _ _ _ | exact Wv.nil _)
end Go.Proofs.YtdaafnaokdigbaaGreatDoor
namespace Go.Av
open Go.RowKit
def Info.start (w : World) : Info := ⟨fun b => if b < w.heap.size then none else some 0, fun _ => none, fun _ => none⟩
theorem Inv.start (w : World) (hg : ∀ g cs, G g = some cs → Rel (Info.start w) w (gv cs) (.pointer (some ⟨g, 0, none⟩))) : Inv (Info.start w) [] w where
  holds := fun c h => by cases h
  nodup := by simp
  fresh := fun b h => by simp only [Info.start]; rw [if_neg (by omega)]
  ids := ⟨0, fun _ _ => ⟨rfl, rfl⟩⟩
  glob := hg
theorem jI {w : World} {b n : Nat} (h : b < w.heap.size) : Stab (Info.start w) b n := fun m hm => by
  simp only [Info.start] at hm
  rw [if_pos h] at hm; cases hm
theorem law_of {P : Program} {f : FuncId} {args : List AV} {vs : List Value} {w : World} (h : ACalls P f args [] (Ret (B true) [])) (hr : RelL (Info.start w) w args vs)
    (hg : ∀ g cs, G g = some cs → Rel (Info.start w) w (gv cs) (.pointer (some ⟨g, 0, none⟩))) :
    Calls P f vs.toArray w fun e w' => e = .returned (.bool true) ∧ Below w.heap.size w w' :=
  (h [] (Info.start w) w vs (Inv.start w hg) hr).mono fun e w' ⟨I', ae, A', E, _, he, h1, _⟩ => by
    subst h1;refine ⟨?_, E.os, E.tape, E.out, E.size, fun k hk => (E.blk k (by simp only [Info.start]; rw [if_pos hk])).1⟩
    cases e with
    | returned v => cases he; rfl
    | panicked c => exact he.elim
    | outgrown => exact he.elim
theorem nx {w : World} {a : Addr} {v : Value} (h : w.cell? a = some v) : a.block < w.heap.size ∧ a.spot = none := by
  unfold World.cell? at h
  split at h
  · rename_i c _ _ hb
    have hlt := (Array.getElem?_eq_some_iff.1 hb).1
    split at h
    · cases h
    · rename_i hs
      cases hsp : a.spot with
      | none => exact ⟨hlt, rfl⟩
      | some k => rw [hsp] at hs; exact absurd rfl hs
  · cases h
theorem qx {α : Type} {w : World} (E : Enc α) (g : α → Value) (hE : ∀ x, E.f x = [.v (g x)]) (l : List α) (x : Addr) (cap : Nat) (hcap : l.length ≤ cap)
    (hc : ∀ i (h : i < l.length), w.cell? (x.add i) = some (g l[i])) : Rel (Info.start w) w (slE E l none) (.slice (some x) l.length cap) := by
  by_cases hl : l = []
  · subst hl; exact .slz _ _ _
  · have h0 : 0 < l.length := List.length_pos_iff.2 hl
    have hk : E.k = 1 := by rw [← E.len l[0], hE]; rfl
    have hf : E.fl l = l.map fun x => .v (g x) := by
      clear hl h0 hcap hc
      induction l with
      | nil => rfl
      | cons y l ih => rw [E.fl_cons, hE, ih]; rfl
    have hx0 := hc 0 h0
    obtain ⟨hb, hs⟩ := nx hx0
    have hx : x = ⟨x.block, x.off, none⟩ := by
      have : x.add 0 = x := rfl
      rw [this] at hs
      cases x; simp at hs; subst hs; rfl
    have hb' : x.block < w.heap.size := hb
    rw [hx]
    have hadd : ∀ i, i < l.length → w.cell? ⟨x.block, x.off + i, none⟩ = w.cell? (x.add i) := fun i hi => by
      unfold Addr.add
      by_cases h : i = 0
      · rw [if_pos h]; subst h; rw [Nat.add_zero, ← hx]
      · rw [if_neg h]
    unfold slE
    refine .sl E.k (E.fl l) none x.block x.off l.length cap (fun j => if h : j < l.length then g l[j] else undef) (by omega) (by rw [E.fl_length]) hcap (jI hb') ?_ ?_ (fun _ h => by cases h)
    · intro j hj
      rw [E.fl_length, hk, Nat.mul_one] at hj
      simp only [hj, dif_pos]
      rw [hadd j hj, hc j hj]
    · intro j hj
      have hj' : j < l.length := by rw [E.fl_length, hk, Nat.mul_one] at hj; exact hj
      simp only [hj', dif_pos, hf, List.getElem_map]
      exact .v _
theorem qV {w : World} {a : Option Addr} {len cap : Nat} {zs : List Int}
    (h : (a = none ∧ len = 0 ∧ cap = 0 ∧ zs = []) ∨ ∃ x, a = some x ∧ len ≤ cap ∧ cap ≤ maxLen ∧ zs.length = cap ∧ (∀ i, i < zs.length → w.cell? (x.add i) = some (.int .u8 (zs.getD i 0))) ∧ ∀ n ∈ zs, (Lit.int .u8 n).wf = true) :
    ∃ l : List UInt8, l.length = len ∧ len ≤ maxLen ∧ Rel (Info.start w) w (slE Enc.byte l none) (.slice a len cap) := by
  rcases h with ⟨rfl, rfl, rfl, rfl⟩ | ⟨x, rfl, hl, hm, hz, hc, hw⟩
  · exact ⟨[], rfl, Nat.zero_le _, .slz _ _ _⟩
  · refine ⟨(zs.take len).map fun n => UInt8.ofNat n.toNat, by simp; omega, by omega, ?_⟩
    have hll : ((zs.take len).map fun n => UInt8.ofNat n.toNat).length = len := by simp; omega
    have := qx (w := w) Enc.byte (fun c => .int .u8 c.toNat) (fun _ => rfl) ((zs.take len).map fun n => UInt8.ofNat n.toNat) x cap (by omega) (fun i hi => by
      rw [hll] at hi
      rw [hc i (by omega)]
      have hiz : i < zs.length := by omega
      have hn := hw zs[i] (List.getElem_mem hiz)
      have hn2 : 0 ≤ zs[i] ∧ zs[i] ≤ 255 := by simpa [Lit.wf, IntKind.min, IntKind.max, IntKind.signed, IntKind.bits] using hn
      simp only [List.getElem_map, List.getElem_take]
      have e : ((UInt8.ofNat zs[i].toNat).toNat : Int) = zs[i] := by simp; omega
      rw [e]
      simp [List.getD, hiz])
    rw [hll] at this
    exact this
theorem rel_string (I : Info) (w : World) (s : ByteArray) : Rel I w (S s.data.toList) (.string s) := by
  have : (⟨s.data.toList.toArray⟩ : ByteArray) = s := by cases s; simp
  show Rel I w (.v (.string ⟨s.data.toList.toArray⟩)) _
  rw [this]; exact .v _
end Go.Av
namespace Go.Proofs.YtdaafnaokdigbaaGreatDoor
open Go.RowKit Go.Av
theorem str_fl (l : List (List UInt8)) : Enc.str.fl l = l.map fun s => S s := by
  induction l with
  | nil => rfl
  | cons c s ih => rw [Enc.fl_cons, ih]; rfl
theorem rd (s sep : List UInt8) (hs : s.length < 4294967281) (h1 : 1 ≤ sep.length) : ACalls Tryz.prog 112 [S s, S sep] [] (Ret (slE Enc.str (Go.Lib.split s sep) none) []) := fun F I w vs hI hv => by
  obtain ⟨v1, r1, rfl, e1, hv⟩ := hv.out_cons;obtain ⟨v2, r2, rfl, e2, hv⟩ := hv.out_cons
  rw [hv.out_nil, hX e1, hX e2]
  obtain ⟨m, hm⟩ := ii hI (g := 0) (k := .i64) (r := []) rfl
  have hsep : 1 ≤ (⟨sep.toArray⟩ : ByteArray).size := by simpa [ByteArray.size] using h1
  refine (Tryz.strings_Split ⟨s.toArray⟩ ⟨sep.toArray⟩ m w (by simpa [ByteArray.size] using hs) hm hsep).mono fun e w' ⟨he, hw⟩ => ?_
  subst he; subst hw
  have hlen := Go.Lib.splitB_all ⟨sep.toArray⟩ hsep 0 _ ⟨s.toArray⟩ rfl
  have hdat := Go.Lib.splitB_data ⟨sep.toArray⟩ 0 (Go.Lib.countB ⟨s.toArray⟩ ⟨sep.toArray⟩) ⟨s.toArray⟩
  generalize hL : Go.Lib.splitB ⟨sep.toArray⟩ 0 (Go.Lib.countB ⟨s.toArray⟩ ⟨sep.toArray⟩) ⟨s.toArray⟩ = L at hlen hdat
  have hsp : Go.Lib.split s sep = L.map (·.data.toList) := by rw [hdat]; rfl
  have hll : (Go.Lib.split s sep).length = L.length := by rw [hsp]; simp
  refine ⟨_, .ret (slE Enc.str (Go.Lib.split s sep) none), [], hI.new_still _, hI.alloc_still _, ?_, rfl, rfl⟩
  rw [← hlen, ← hll]
  have hfl : (Enc.str.fl (Go.Lib.split s sep)).length = L.length := by rw [str_fl]; simp [hll]
  refine .sl 1 _ none w.heap.size 0 _ _ (fun j => (L.map Value.string).getD j undef) (by decide) (by rw [hfl, hll, Nat.mul_one]) (Nat.le_refl _) (fun m hm => by simp [Info.still] at hm) (fun j hj => ?_) (fun j hj => ?_) (fun _ h => by cases h)
  · rw [hfl] at hj
    rw [Nat.zero_add]
    simp only [World.cell?, bJ]
    simp [List.getD, hj]
  · have hj' : j < L.length := by rw [hfl] at hj; exact hj
    have : (Enc.str.fl (Go.Lib.split s sep))[j] = S (L[j].data.toList) := by
      simp only [str_fl, List.getElem_map, hsp]
    rw [this]
    have h2 : (L.map Value.string).getD j undef = .string L[j] := by simp [List.getD, hj']
    rw [h2]
    exact rel_string _ _ _
end Go.Proofs.YtdaafnaokdigbaaGreatDoor
namespace Go.Av
open Go.RowKit Go.Pv
section
variable {P : Program} {ro : Option Nat} {N : Nat} {Q : dj} {ops : Array Oper} {l : List Nat} {e : Env} {ds : List ADef} {A : List Chunk}
end
section
variable {P : Program} {e : Env} {d : Option Nat} {T : TypeId} {pos : String} {after : Array Edge} {g : Option (Nat × Bool)} {x : Operand} {A : List Chunk}
def isAgg : AV → Bool
  | .agg _ => true
  | _ => false
theorem qC {a : AV} (h : isAgg a = true) : ∃ cs, a = .agg cs := by
  cases a <;> first | exact ⟨_, rfl⟩ | cases h
def nu (e : Env) (parts : List (Nat × Operand)) : Bool := parts.all fun p => cc (opv e p.2) || isAgg (opv e p.2)
theorem jx {parts : Array (Nat × Operand)} {zs : List Value} {ps : List (Nat × Nat)} {cs : List AV} {T2 : TypeId} (hi : jH P T = some (zs, ps))
    (hok : nu e parts.toList = true) (hf : ma ps (zs.map .v) (parts.toList.map fun p => (p.1, opv e p.2)) = some cs) : OpS P ⟨d, .build T parts, T2, pos, after, g⟩ e (.agg cs) :=
  qY hi (fun p hp => by
    have h := List.all_eq_true.1 hok p hp
    cases hc : cc (opv e p.2) with
    | true => exact .inl rfl
    | false => rw [hc, Bool.false_or] at h; exact .inr (qC h)) hf
end
section
variable {P : Program} {ro : Option Nat} {N : Nat} {Q : dj} {ops : Array Oper}
theorem AI.meet {e : Env} {ds : List ADef} {A : List Chunk} {fuel0 : Nat} {listed0 : Array Bool} (fuel : Nat) (listed : Array Bool) (d : Nat) (av : AV)
    (k : (∀ (r : Env) (m : Nat), r.drop m = e → fresh ((r.take m).map Prod.fst) e = true → AI P ro N ops Q fuel listed ⟨(d, av) :: r, ds, A⟩) → AI P ro N ops Q fuel0 listed0 ⟨e, ds, A⟩)
    (h : AI P ro N ops Q fuel listed ⟨(d, av) :: e, ds, A⟩) : AI P ro N ops Q fuel0 listed0 ⟨e, ds, A⟩ :=
  k fun r m hr hf => fun hp F I0 w0 I w a E hI hS => h hp F I0 w0 I w a E hI ⟨hS.size, fun t => by
    have ht := hS.env t
    have hre : r = r.take m ++ e := by rw [← hr, List.take_append_drop]
    generalize r.take m = pre at hf hre
    subst hre
    simp only [ev] at ht ⊢
    cases hb : Nat.beq d t with
    | true => rw [hb] at ht; exact ht
    | false =>
      rw [hb] at ht
      simp only at ht ⊢
      by_cases hm : ∃ p ∈ pre, p.1 = t
      · obtain ⟨p, hp, rfl⟩ := hm
        have : ev e p.1 = .any := by
          clear ht hS hI h k hr
          induction e with
          | nil => rfl
          | cons q e ih =>
            obtain ⟨j, b⟩ := q
            simp only [fresh, List.all_cons, Bool.and_eq_true, Bool.not_eq_true'] at hf
            have hj : j ≠ p.1 := fun e => by
              have := hf.1
              rw [e] at this
              have h2 : (pre.map Prod.fst).contains p.1 = true := by simpa using ⟨p.2, hp⟩
              rw [h2] at this; cases this
            simp only [ev]
            have hb : Nat.beq j p.1 = false := by
              cases hb : Nat.beq j p.1 with
              | false => rfl
              | true => exact absurd (Nat.eq_of_beq_eq_true hb) hj
            rw [hb]
            exact ih hf.2
        rw [this]; exact .any _
      · rw [← fN pre t (fun p hp e => hm ⟨p, hp, e⟩)]; exact ht, hS.ds⟩
end
end Go.Av
namespace Go.Av
open Go.RowKit Go.Pv
def Info.stillN (I : Info) (b n : Nat) : Info := { I with ext := fun x => if x = b then some n else I.ext x }
theorem Inv.other {I : Info} {A : List Chunk} {w : World} {c : Chunk} {b : Nat} (h : Inv I (c :: A) w) (hc : c.blk I = some b) : ∀ d ∈ A, ∀ b', d.blk I = some b' → b' ≠ b := by
  intro d hd b' hb' e;subst e
  have hn := h.nodup
  rw [List.filterMap_cons, hc] at hn
  exact (List.nodup_cons.1 hn).1 (List.mem_filterMap.2 ⟨d, hd, hb'⟩)
theorem Inv.freeze {I : Info} {A : List Chunk} {w : World} {o : Nat} {cs : List AV} (h : Inv I (.obj o cs :: A) w) (n : Nat) (hn : n ≤ cs.length) :
    ∃ I', Ext I w I' w ∧ Inv I' A w ∧ ∀ cap v, n ≤ cap → Rel I w (.vw o 0 n cap) v → Rel I' w (.sl 1 (cs.take n) none) v := by
  obtain ⟨b, arr, ho, he, hca, hrl⟩ := h.holds _ (List.mem_cons_self ..)
  have hbl : (Chunk.obj o cs).blk I = some b := ho
  have E : Ext I w (I.stillN b n) w := by
    refine ⟨rfl, rfl, rfl, Nat.le_refl _, fun b' hb' => ⟨rfl, ?_⟩, fun _ _ _ => rfl, fun b' m hs => ?_, fun _ _ x => x, fun _ _ x => x, fun _ _ x => x⟩
    · simp only [Info.stillN]
      rw [if_neg]
      · exact hb'
      · rintro rfl; rw [he] at hb'; cases hb'
    · intro q hq
      simp only [Info.stillN] at hq
      by_cases e : b' = b
      · subst e
        have := hs 0 he
        omega
      · rw [if_neg e] at hq; exact hs q hq
  refine ⟨I.stillN b n, E, ?_, ?_⟩
  · have hA : Inv I A w := h.sub (List.sublist_cons_self ..)
    refine hA.keep E (fun c hc b' hb' => ⟨rfl, ?_⟩) (fun b' hb' => ?_) h.ids
    · simp only [Info.stillN]; rw [if_neg (h.other hbl c hc b' hb')]
    · have hlt := hca.lt
      simp only [Info.stillN]; rw [if_neg (by omega)]; exact h.fresh b' hb'
  · intro cap v hcap hv
    cases hv with
    | vw o off len cap b' ho' =>
      rw [ho] at ho'; cases ho'
      have hlen : arr.length = cs.length := hrl.1
      have htk : (cs.take n).length = n := by simp; omega
      refine .sl 1 _ none b 0 n cap (fun j => arr.getD j undef) Nat.one_pos (by rw [htk, Nat.mul_one]) hcap ?_ ?_ ?_ (fun t' e => by cases e)
      · intro q hq
        simp only [Info.stillN, if_true, Option.some.injEq] at hq
        omega
      · intro j hj
        rw [Nat.zero_add, hca.cell, List.getD, aw (by omega)]; rfl
      · intro j hj
        have := (hrl.2 j (by omega)).mono E
        simpa using this
section
variable {P : Program} {ro : Option Nat} {N : Nat} {Q : dj}
end
section
variable {P : Program} {e : Env} {d : Option Nat} {T : TypeId} {pos : String} {after : Array Edge} {g : Option (Nat × Bool)} {x y z : Operand} {av : AV} {A : List Chunk}
end
section
variable {P : Program} {I : Info} {w : World}
end
section
variable {P : Program} {e : Env} {d : Option Nat} {T : TypeId} {pos : String} {after : Array Edge} {g : Option (Nat × Bool)} {x y z : Operand} {av : AV} {A : List Chunk}
end
section
variable {P : Program} {e : Env} {d : Option Nat} {T T2 : TypeId} {pos : String} {after : Array Edge} {g : Option (Nat × Bool)} {x y z : Operand} {av : AV} {A : List Chunk}
end
section
variable {P : Program} {e : Env} {d : Option Nat} {T : TypeId} {pos : String} {after : Array Edge} {g : Option (Nat × Bool)} {x y z : Operand} {av : AV} {A : List Chunk}
end
section
variable {P : Program} {ro : Option Nat} {N : Nat} {Q : dj}
end
end Go.Av
namespace Go.Av
open Go.RowKit
def ResT (P : Program) (fn : Func) (N : Nat) (e : Env) (A : List Chunk) (av : AV) : Prop :=
  ∀ F I w tmps, Inv I (A ++ F) w → tmps.size = N → (∀ t, Rel I w (ev e t) (tmps.getD t undef)) → ∃ v, (results fn tmps).run P w = .ok v w ∧ Rel I w av v
def ADCalls (P : Program) (f : FuncId) (args : List AV) (A : List Chunk) (u : FrameMode) (R : AE → FrameMode → List Chunk → Prop) : Prop :=
  ∀ F I w vs, Inv I (A ++ F) w → RelL I w args vs → CallsD P f vs.toArray u w fun e u' w' => ∃ I' ae A', Ext I w I' w' ∧ Inv I' (A' ++ F) w' ∧ RelE I' w' ae e ∧ R ae u' A'
def ld (P : Program) (fn : Func) (N : Nat) (e : Env) (R : AE → List Chunk → Prop) : List ADef → FrameMode → List Chunk → Prop
  | [], .returning, A => ∃ av A', ResT P fn N e A av ∧ Sub A' A ∧ R (.ret av) A'
  | [], .panicking c, A => ∃ A', Sub A' A ∧ R (.pan c) A'
  | [], .run, _ => False
  | .call f cap args :: ds, u, A => u ≠ .run ∧ ∃ g A1 B, f = .func g ∧ (∀ as_ w, (callFunc g as_).run P w = .ok (.enter g as_) w) ∧ A.Perm (A1 ++ B) ∧
      ADCalls P g (args ++ cap) A1 u fun ae u' A' => match ae with
        | .ret _ => ld P fn N e R ds (settle u') (A' ++ B)
        | .pan c => ld P fn N e R ds (raised u' c) (A' ++ B)
  | .mark _ :: _, _, _ => False
section
variable {P : Program} {fn : Func} {N : Nat} {e : Env} {R : AE → List Chunk → Prop} {F : List Chunk} {I0 : Info} {w0 : World}
def RetPostD (P : Program) (fn : Func) (N : Nat) (K : List Nat) (R : AE → List Chunk → Prop) : dj
  | .normal, s | .ret, s => ld P fn N s.env R s.ds .returning s.A
  | .panic c, s => ∃ e0 : Env, (∀ p ∈ e0, p.1 ∈ K) ∧ Env.le s.env e0 ∧ ld P fn N e0 R s.ds (.panicking c) s.A
  | _, _ => False
theorem RetPostD.free {K : List Nat} {d : Nat} (hd : K.contains d = false) {c : List PanicEntry} {s : St} (h : RetPostD P fn N K R (.panic c) s) : RetPostD P fn N K R (.panic c) ⟨(d, .any) :: s.env, s.ds, s.A⟩ := by
  obtain ⟨e0, h1, h2, h3⟩ := h;refine ⟨e0, h1, fun p hp => ?_, h3⟩
  have hne : d ≠ p.1 := fun e => by
    have := h1 p hp
    rw [← e] at this
    simp at hd
    exact hd this
  have hb : Nat.beq d p.1 = false := by
    cases hb : Nat.beq d p.1 with
    | false => rfl
    | true => exact absurd (Nat.eq_of_beq_eq_true hb) hne
  simp only [ev, hb]
  exact h2 p hp
end
theorem rn {args : List AV} {vs : List Value} {fn : Func} {I : Info} {w : World} {A : List Chunk} (hv : RelL I w args vs) (hl' : args.length ≤ fn.ntmps) :
    RelS fn.ntmps I w ⟨jr 0 args, [], A⟩ { tmps := vs.toArray ++ Array.replicate (fn.ntmps - vs.toArray.size) undef, defers := [] } := by
  refine ⟨?_, fun t => ?_, .nil⟩
  · simp [hv.1]; omega
  · show Rel I w (ev (jr 0 args) t) _
    rw [mN]
    simp only [Nat.zero_le, if_true, Nat.sub_zero]
    by_cases ht : t < args.length
    · have := hv.2 t ht
      have hx : t < vs.length := by rw [hv.1]; exact ht
      rw [show args.getD t .any = args[t] by simp [List.getD, ht]]
      have e1 : (vs.toArray ++ Array.replicate (fn.ntmps - vs.toArray.size) undef).getD t undef = vs.getD t undef := by
        rw [Array.getD_eq_getD_getElem?, Array.getElem?_append_left (by simpa using hx)]
        simp [List.getD]
      rw [e1]; exact this
    · rw [show args.getD t .any = .any by simp [List.getD, List.getElem?_eq_none (Nat.le_of_not_lt ht)]]
      exact .any _
theorem pb {P : Program} {o : Oper} {a : Act} {K K' : Act → World → Prop} {Q Q' : Exit → Act → World → Prop} {r : Result Next} (h : ∀ a w, K a w → K' a w) (hq : ∀ e a w, Q e a w → Q' e a w) (hh : o.upon P a K Q r) : o.upon P a K' Q' r := by
  cases r with
  | ok n w' =>
    cases n <;> simp only [Oper.upon] at hh ⊢ <;> first
      | exact h _ _ hh
      | exact hh.mono fun e w'' he => by cases e <;> first | exact h _ _ he | exact hq _ _ _ he | exact he.imp fun _ ⟨w, hx⟩ => ⟨w, hq _ _ _ hx⟩
      | exact hh.mono fun v w'' he => h _ _ he
      | exact hh
  | halt x w' => cases x <;> simp only [Oper.upon] at hh ⊢ <;> first | exact hq _ _ _ hh | exact hh
theorem nF {P : Program} {ops : Array Oper} {R R' : Exit → Act → List Frame → World → Prop} (l : List Nat) (h : ∀ e a cs w, R e a cs w → R' e a cs w) :
    ∀ a cs w, wpOpsS P ops R l a cs w → wpOpsS P ops R' l a cs w := by
  induction l with
  | nil => exact fun a cs w hh => h _ _ _ _ hh
  | cons i rest ih =>
    intro a cs w hh
    simp only [wpOpsS] at hh ⊢
    cases ho : ops[i]? with
    | none => simp only [ho] at hh ⊢; exact ih a cs w hh
    | some o =>
      simp only [ho] at hh ⊢
      by_cases hw : Region.wanted o (yielded ops a.tmps) = true
      · simp only [hw, if_true] at hh ⊢
        generalize (execOp a.eval o).run P w = r at hh ⊢
        split at hh
        · split at hh
          · exact ih _ _ _ hh
          · exact ih _ _ _ hh
        · rename_i r' hnr
          exact pb (fun a w => ih a cs w) (fun e a w => h e a cs w) hh
      · simp only [hw, if_false, Bool.false_eq_true] at hh ⊢
        exact ih _ _ _ hh
def ASR (P : Program) (N : Nat) (ops : Array Oper) (cs : List Frame) (Q : dj) (l : List Nat) (s : St) : Prop :=
  ∀ F I w a, Inv I (s.A ++ F) w → RelS N I w s a → wpOpsS P ops (fun e a' cs' w' => cs' = cs ∧ CQ N F I w Q e a' w') l a cs w
theorem ASR.nil {P : Program} {N : Nat} {ops : Array Oper} {cs : List Frame} {Q : dj} {s : St} (h : Q .normal s) : ASR P N ops cs Q [] s := fun F I w a hI hS =>
  ⟨rfl, I, s, bx _ _, hI, hS, h⟩
theorem ASR.op {P : Program} {N : Nat} {ops : Array Oper} {cs : List Frame} {Q : dj} {i : Nat} {rest : List Nat} {d : Nat} {op : Op} {T : TypeId} {pos : String} {after : Array Edge} {e : Env} {ds : List ADef} {A A' : List Chunk} {av : AV}
    (ho : ops[i]? = some ⟨some d, op, T, pos, after, none⟩) (hd : Nat.blt d N = true) (h : OpR P ⟨some d, op, T, pos, after, none⟩ e A av A') (k : ASR P N ops cs Q rest ⟨(d, av) :: e, ds, A'⟩) :
    ASR P N ops cs Q (i :: rest) ⟨e, ds, A⟩ := fun F I w a hI hS => by
  obtain ⟨n, v, w', I', hrun, hnv, E, hI', hv⟩ := h F I w a.eval hI hS.op
  have hk := k F I' w' (a.put (some d) v) hI' ((hS.mono E).put (ag hd) hv A')
  have hk' := nF (R' := fun e a' cs' w' => cs' = cs ∧ CQ N F I w Q e a' w') rest (fun e a' cs' w' ⟨h1, h2⟩ => ⟨h1, dk E (fun _ _ h => h) h2⟩) _ _ _ hk
  simp only [wpOpsS, ho, Region.wanted, if_true, hrun]
  rcases hnv with rfl | ⟨rfl, rfl⟩ <;> exact hk'
end Go.Av
namespace Go.Av
open Go.RowKit
section
variable {P : Program} {ro : Option Nat} {N : Nat} {Q : dj} {ops : Array Oper}
theorem qp {I : Info} {w : World} {f : Fn} {as_ bs : List AV} {v : Value} (h : Rel I w (.fn f as_ bs) v) : ∃ xs ys : List Value, v = .func f xs.toArray ys.toArray ∧ RelL I w as_ xs ∧ RelL I w bs ys := by
  cases h with
  | fn _ _ _ xs ys hl hr hl' hr' => exact ⟨xs, ys, rfl, ⟨hl, hr⟩, ⟨hl', hr'⟩⟩
def FnV (a : AV) (f : Fn) (as_ bs : List AV) : Prop := a = .fn f as_ bs ∨ (a = .v (.func f #[] #[]) ∧ as_ = [] ∧ bs = [])
theorem rel_fnV {I : Info} {w : World} {a : AV} {f : Fn} {as_ bs : List AV} {v : Value} (h : FnV a f as_ bs) (hr : Rel I w a v) : ∃ xs ys : List Value, v = .func f xs.toArray ys.toArray ∧ RelL I w as_ xs ∧ RelL I w bs ys := by
  rcases h with rfl | ⟨rfl, rfl, rfl⟩
  · exact qp hr
  · exact ⟨[], [], bM hr, di, di⟩
theorem je {P : Program} {ρ : Operand → Value} {f : Fn} {xs ys : Array Value} {x : Operand} {args : Array Operand} {argTypes : Array TypeId} {T : TypeId} {w : World} (h : ρ x = .func f xs ys) :
    (resolve ρ ⟨.value x, args, argTypes⟩ T).run P w = .ok { target := .fn f ys, args := xs ++ args.map ρ } w := by
  simp only [resolve, h, Deferred.ofValue, Sem.run_pure]
theorem AO.callF {rest : List Nat} {d : Nat} {x : Operand} {f : FuncId} {fs cs : List AV} {args : Array Operand} {argTypes : Array TypeId} {T : TypeId} {pos : String} {after : Array Edge} {g : Option (Nat × Bool)} {e : Env} {ds : List ADef} {A A1 : List Chunk} (B : List Chunk)
    {R : AE → List Chunk → Prop} {avs : List AV} (hd : Nat.blt d N = true) (hx : FnV (opv e x) (.func f) fs cs) (hf : ∀ args w, (callFunc f args).run P w = .ok (.enter f args) w) (ha : fs ++ args.toList.map (opv e) ++ cs = avs)
    (h : ACalls P f avs A1 R) (p : A.Perm (A1 ++ B)) (k : ∀ av A', R (.ret av) A' → AR P ro N ops Q rest ⟨(d, av) :: e, ds, A' ++ B⟩)
    (kp : ∀ c A', R (.pan c) A' → Q (.panic c) ⟨e, ds, A' ++ B⟩) :
    AO P ro N ops Q rest ⟨some d, .call ⟨.value x, args, argTypes⟩, T, pos, after, g⟩ ⟨e, ds, A⟩ := fun F I w a hI hS => by
  have hS' := hS
  obtain ⟨xs, ys, hv, hxs, hys⟩ := rel_fnV hx (hS'.op x)
  have hrl : RelL I w avs (xs ++ args.toList.map a.eval ++ ys) := by
    rw [← ha]; exact (hxs.append (RelL.map _ _ _ fun x _ => hS'.op x)).append hys
  refine ⟨fun _ _ => cz _, ?_⟩
  have he : (xs.toArray ++ args.map a.eval) ++ ys.toArray = (xs ++ args.toList.map a.eval ++ ys).toArray := by apply Array.ext'; simp
  have hex : (Oper.semAt (cm ro).round a.eval ⟨some d, .call ⟨.value x, args, argTypes⟩, T, pos, after, g⟩).run P w = .ok (.enter f (xs ++ args.toList.map a.eval ++ ys).toArray) w := by
    rw [Oper.semAt_eq _ _ _ (fun c h => by cases h)]
    simp only [execOp, Sem.run_bind, je hv, Result.andThen_ok, invoke, he]
    exact hf _ _
  rw [hex]
  refine ⟨kf, AO.call.callsIn_wide'.2 ?_⟩
  have hI2 : Inv I (A1 ++ (B ++ F)) w := by rw [← List.append_assoc]; exact hI.perm (p.append_right F)
  refine (h (B ++ F) I w _ hI2 hrl).mono fun en w' ⟨I', ae, A', E, hI', hre, hR⟩ => ?_
  have hI3 : Inv I' ((A' ++ B) ++ F) w' := by rw [List.append_assoc]; exact hI'
  cases en with
  | returned v =>
    cases ae with
    | ret av =>
      have hk := k av A' hR F I' w' (a.put (some d) v) hI3 ((hS.mono E).put (ag hd) hre _)
      exact cn rest (fun _ _ _ => dk E fun _ _ h => h) _ _ hk
    | pan c => exact hre.elim
  | panicked c =>
    cases ae with
    | ret av => exact hre.elim
    | pan c' =>
      cases hre
      exact ⟨I', ⟨e, ds, A' ++ B⟩, E, hI3, ⟨hS.size, (hS.mono E).env, (hS.mono E).ds⟩, kp _ A' hR⟩
  | outgrown => cases ae <;> exact hre.elim
theorem AO.callFp {rest : List Nat} {d : Nat} {x : Operand} {f : FuncId} {fs cs : List AV} {args : Array Operand} {argTypes : Array TypeId} {T : TypeId} {pos : String} {after : Array Edge} {g : Option (Nat × Bool)} {e : Env} {ds : List ADef} {A : List Chunk}
    {avs : List AV} {v : AV} (hd : Nat.blt d N = true) (hx : FnV (opv e x) (.func f) fs cs) (hf : ∀ args w, (callFunc f args).run P w = .ok (.enter f args) w) (ha : fs ++ args.toList.map (opv e) ++ cs = avs)
    (h : ACalls P f avs [] (Ret v [])) (k : AR P ro N ops Q rest ⟨(d, v) :: e, ds, A⟩) :
    AO P ro N ops Q rest ⟨some d, .call ⟨.value x, args, argTypes⟩, T, pos, after, g⟩ ⟨e, ds, A⟩ :=
  AO.callF A hd hx hf ha h (bo _) (fun av A' ⟨h1, h2⟩ => by cases h1; subst h2; exact k) (fun c A' ⟨h1, _⟩ => by cases h1)
theorem AO.callFAt {rest : List Nat} {d : Nat} {x : Operand} {f : FuncId} {fs cs : List AV} {args : Array Operand} {argTypes : Array TypeId} {T : TypeId} {pos : String} {after : Array Edge} {g : Option (Nat × Bool)} {e : Env} {ds : List ADef} {A A1 B : List Chunk}
    {R : AE → List Chunk → Prop} {avs : List AV} (is : List Nat) (hd : Nat.blt d N = true) (hx : FnV (opv e x) (.func f) fs cs) (hf : ∀ args w, (callFunc f args).run P w = .ok (.enter f args) w) (ha : fs ++ args.toList.map (opv e) ++ cs = avs)
    (h : ACalls P f avs A1 R) (p : iU A is = some (A1, B)) (hr : ∀ c A', ¬ R (.pan c) A') (k : ∀ av A', R (.ret av) A' → AR P ro N ops Q rest ⟨(d, av) :: e, ds, A' ++ B⟩) :
    AO P ro N ops Q rest ⟨some d, .call ⟨.value x, args, argTypes⟩, T, pos, after, g⟩ ⟨e, ds, A⟩ :=
  AO.callF B hd hx hf ha h (dq is _ _ _ p) k (fun c A' h => (hr c A' h).elim)
theorem AO.defer {rest : List Nat} {x : Operand} {f : Fn} {fs cs : List AV} {args : Array Operand} {argTypes : Array TypeId} {T : TypeId} {pos : String} {after : Array Edge} {g : Option (Nat × Bool)} {e : Env} {ds : List ADef} {A : List Chunk}
    (hx : opv e x = .fn f fs cs) (k : AR P none N ops Q rest ⟨e, .call f cs (fs ++ args.toList.map (opv e)) :: ds, A⟩) :
    AO P none N ops Q rest ⟨none, .defer ⟨.value x, args, argTypes⟩, T, pos, after, g⟩ ⟨e, ds, A⟩ := fun F I w a hI hS => by
  have hS' := hS
  obtain ⟨xs, ys, hv, hxs, hys⟩ := qp (hx ▸ hS'.op x);refine ⟨fun _ _ => cz _, ?_⟩
  have hex : (Oper.semAt (cm none).round a.eval ⟨none, .defer ⟨.value x, args, argTypes⟩, T, pos, after, g⟩).run P w = .ok (.defer { target := .fn f ys.toArray, args := (xs ++ args.toList.map a.eval).toArray }) w := by
    rw [show (cm none).round = none from rfl, Oper.semAt_none]
    simp only [execOp, Sem.run_bind, je hv, Result.andThen_ok, Sem.run_pure]
    congr 2
    congr 1
    apply Array.ext'; simp
  rw [hex]
  exact k F I w _ hI ⟨hS.size, hS.env, .cons (.call f cs _ ys _ hys (hxs.append (RelL.map _ _ _ fun x _ => hS'.op x))) hS.ds⟩
mutual
def conc : AV → Option Value
  | .v x => some x
  | .ifc t a => (conc a).map (.iface t)
  | .agg l => (concL l).map fun l => .agg l.toArray
  | _ => none
def concL : List AV → Option (List Value)
  | [] => some []
  | a :: l => match conc a, concL l with
    | some x, some r => some (x :: r)
    | _, _ => none
end
mutual
theorem conc_rel {I : Info} {w : World} : ∀ (a : AV) (x v : Value), conc a = some x → Rel I w a v → v = x
  | .v y, x, v, h, hr => by cases h; cases hr; rfl
  | .ifc t a, x, v, h, hr => by
    simp only [conc, Option.map_eq_some_iff] at h
    obtain ⟨y, hy, rfl⟩ := h
    cases hr with
    | ifc _ _ z hz => rw [conc_rel a y z hy hz]
  | .agg l, x, v, h, hr => by
    simp only [conc, Option.map_eq_some_iff] at h
    obtain ⟨y, hy, rfl⟩ := h
    cases hr with
    | agg _ xs hl hr => rw [concL_rel l y xs hy ⟨hl, hr⟩]
  | .sl .., _, _, h, _ | .cp .., _, _, h, _ | .pt .., _, _, h, _ | .vw .., _, _, h, _ | .tup .., _, _, h, _ | .fn .., _, _, h, _ | .any, _, _, h, _ | .anyk .., _, _, h, _ | .anyi, _, _, h, _ | .mp .., _, _, h, _ | .rp .., _, _, h, _ | .mk .., _, _, h, _ | .yl .., _, _, h, _ => by simp [conc] at h
theorem concL_rel {I : Info} {w : World} : ∀ (l : List AV) (xs vs : List Value), concL l = some xs → RelL I w l vs → vs = xs
  | [], xs, vs, h, hr => by simp only [concL, Option.some.injEq] at h; rw [hr.out_nil, h]
  | a :: l, xs, vs, h, hr => by
    obtain ⟨v, vs', rfl, h1, h2⟩ := hr.out_cons
    simp only [concL] at h
    split at h
    · rename_i x r hx hrr
      cases h
      rw [conc_rel a x v hx h1, concL_rel l r vs' hrr h2]
    · cases h
end
theorem AO.panic {rest : List Nat} {d : Option Nat} {x : Operand} {t : TypeId} {v : Value} {T : TypeId} {pos : String} {after : Array Edge} {g : Option (Nat × Bool)} {e : Env} {ds : List ADef} {A : List Chunk}
    (hx : conc (opv e x) = some (.iface t v)) (k : Q (.panic [{ v := .iface t v, recovered := false }]) ⟨e, ds, A⟩) :
    AO P ro N ops Q rest ⟨d, .panic x, T, pos, after, g⟩ ⟨e, ds, A⟩ := fun F I w a hI hS => by
  have hv := conc_rel _ _ _ hx (hS.op x)
  refine ⟨fun _ _ => cz _, ?_⟩
  have hex : (Oper.semAt (cm ro).round a.eval ⟨d, .panic x, T, pos, after, g⟩).run P w = .halt (.panic (.iface t v)) w := by
    rw [Oper.semAt_eq _ _ _ (fun c h => by cases h)]
    simp only [execOp, hv, Instr.panic, Sem.run_bind]
    rfl
  rw [hex]
  exact ⟨I, ⟨e, ds, A⟩, bx _ _, hI, hS, k⟩
end
end Go.Av
namespace Go.Av
open Go.RowKit
section
variable {H : Type} {enc : TypeId × Value → H}
end
theorem rel_var {w : World} {g : Nat} {v : Value} {c : AV} (h : w.cell? ⟨g, 0, none⟩ = some v) (hr : Rel (Info.start w) w c v) : Rel (Info.start w) w (.cp [c]) (.pointer (some ⟨g, 0, none⟩)) := by
  refine .cp [c] g 0 (fun _ => v) (jI (nx h).1) (fun j hj => ?_) (fun j hj => ?_)
  · have : j = 0 := by simpa using hj
    subst this; exact h
  · have : j = 0 := by simpa using hj
    subst this; exact hr
end Go.Av
namespace Go.Av
open Go.RowKit Go.Pv
def pan1 (v : Value) : List PanicEntry := [{ v := v, recovered := false }]
section
variable {P : Program} {ro : Option Nat} {N : Nat} {Q : dj} {ops : Array Oper}
def ALR (P : Program) (ro : Option Nat) (N : Nat) (c : Code) (Q : dj) : Nat → St → Prop
  | 0, _ => False
  | m + 1, s => AW P ro N c (Then (ALR P ro N c Q m) Q) s
theorem ALR.sound {c : Code} {F : List Chunk} {I0 : Info} {w0 : World} : ∀ (m : Nat) (s : St) (I : Info) (w : World) (a : Act), Ext I0 w0 I w → Inv I (s.A ++ F) w → RelS N I w s a → ALR P ro N c Q m s →
    Code.roundsIn (cm ro) 0 P c (CQ N F I0 w0 Q) m a w := by
  intro m
  induction m with
  | zero => intro s I w a _ _ _ h; exact h.elim
  | succ m ih =>
    intro s I w a E hI hS h
    refine wpIn_mono (h F I w a hI hS) fun e a' w' hq => ?_
    obtain ⟨I', s', E', hI', hS', hq⟩ := hq
    cases e with
    | normal => exact ih s' I' w' a' (E.trans E') hI' hS' hq
    | _ => exact ⟨I', s', E.trans E', hI', hS', hq⟩
theorem rB (m : Nat) {c : Code} {s : St} (h : ALR P ro N c Q m s) : AW P ro N (.loop c) Q s := fun F I w a hI hS =>
  wpIn_loop_rounds m (ALR.sound m s I w a (bx _ _) hI hS h)
variable {e : Env} {d : Option Nat} {T : TypeId} {pos : String} {after : Array Edge} {g : Option (Nat × Bool)} {x : Operand}
def CellV (P : Program) (e : Env) (A : List Chunk) (a t : Nat) (av : AV) : Prop := ∀ F I w v, Inv I (A ++ F) w → Rel I w (ev e a) v → ∃ p x, (asAddr v).run P w = .ok p w ∧ (loadVar t p).run P w = .ok x w ∧ Rel I w av x
theorem CellV.one {e : Env} {A : List Chunk} {a t o off : Nat} (i : Nat) {cs : List AV} {c : AV} {D : TypeDesc} (hT : P.underlying t = some D) (hD : hH D = false) (hx : ev e a = .pt o off) (hA : A[i]? = some (.obj o cs)) (hc : cs[off]? = some c) : CellV P e A a t c := fun F I w v hI hv => by
  rw [hx] at hv
  cases hv with
  | pt o off b ho =>
    obtain ⟨b', arr, ho', he, hca, hrl⟩ := hI.holds _ (fY hA F)
    rw [ho] at ho'; cases ho'
    have hlt : off < cs.length := (List.getElem?_eq_some_iff.1 hc).1
    have hlt' : off < arr.length := by rw [hrl.1]; exact hlt
    have h0 : w.cell? ⟨b, off, none⟩ = some (arr.getD off undef) := by rw [hca.cell]; simp [List.getD, hlt']
    have hr := hrl.2 off hlt
    rw [(List.getElem?_eq_some_iff.1 hc).2] at hr
    refine ⟨⟨b, off, none⟩, _, rfl, ?_, hr⟩
    simp only [loadVar, Sem.run_bind, fZ hT hD, Result.andThen_ok, Bool.false_eq_true, if_false, run_load, h0]
theorem CellV.agg {e : Env} {A : List Chunk} {a t o off n : Nat} (i : Nat) {cs : List AV} {D : TypeDesc} (hT : P.underlying t = some D) (hD : hH D = true) (hsz : bf P t = some n) (hx : ev e a = .pt o off) (hA : A[i]? = some (.obj o cs)) (hn : off + n ≤ cs.length) : CellV P e A a t (.agg ((cs.drop off).take n)) := fun F I w v hI hv => by
  rw [hx] at hv
  cases hv with
  | pt o off b ho =>
    obtain ⟨b', arr, ho', he, hca, hrl⟩ := hI.holds _ (fY hA F)
    rw [ho] at ho'; cases ho'
    have hl : (loadCells ⟨b, off, none⟩ n).run P w = .ok ((List.range n).map fun j => arr.getD (off + j) undef).toArray w := run_loadCells w _ n _ (fun j hj => by
      rw [bL, hca.cell, aw (by rw [hrl.1]; omega)]
      simp [List.getD, show off + j < arr.length by rw [hrl.1]; omega])
    refine ⟨⟨b, off, none⟩, _, rfl, ?_, .agg _ ((List.range n).map fun j => arr.getD (off + j) undef) (by simp; omega) (fun j hj => ?_)⟩
    · simp only [loadVar, fZ hT hD, if_true, bh hsz, hl, Sem.run_bind, Sem.run_pure, Result.andThen_ok]
    · have hj' : j < n := by simp at hj; omega
      have h1 := hrl.2 (off + j) (by omega)
      simp only [List.getElem_take, List.getElem_drop, List.getD, List.getElem?_map, List.getElem?_range hj', Option.map_some, Option.getD_some]
      simpa [List.getD] using h1
theorem kA {fn : Func} {e : Env} {ds : List ADef} {A : List Chunk} {av : AV} (h : ResT P fn N e A av) : ResV P fn N ⟨e, ds, A⟩ av := fun F I w a hI hS => h F I w a.tmps hI hS.size hS.env
def Recovers (u : FrameMode) (v : Value) (u' : FrameMode) : Prop := (∃ older, u = .panicking ({ v := v, recovered := false } :: older) ∧ u' = .panicking ({ v := v, recovered := true } :: older)) ∨ (u = .returning ∧ v = .nilIface ∧ u' = .returning)
theorem Recovers.pan {v : Value} : Recovers (.panicking (pan1 v)) v (.panicking [{ v := v, recovered := true }]) := .inl ⟨[], rfl, rfl⟩
theorem Recovers.ret : Recovers .returning .nilIface .returning := .inr ⟨rfl, rfl, rfl⟩
end
end Go.Av
namespace Go.Av
open Go.RowKit Go.Pv
section
variable {α : Type} {E : Enc α}
end
section
variable {P : Program} {e : Env} {d : Option Nat} {T T2 : TypeId} {pos : String} {after : Array Edge} {g : Option (Nat × Bool)} {x y z : Operand} {av : AV} {A : List Chunk}
theorem iv {f : Fn} {first captured : Array Operand} {as_ bs : List AV} (h1 : first.toList.map (opv e) = as_) (h2 : captured.toList.map (opv e) = bs) : OpS P ⟨d, .makeFunc f first captured, T2, pos, after, g⟩ e (.fn f as_ bs) := fun I w ρ hρ => by
  have r1 : RelL I w as_ (first.toList.map ρ) := by rw [← h1]; exact RelL.map _ _ _ fun x _ => hρ x
  have r2 : RelL I w bs (captured.toList.map ρ) := by rw [← h2]; exact RelL.map _ _ _ fun x _ => hρ x
  refine ⟨.func f (first.map ρ) (captured.map ρ), ?_, fun w' _ _ => rfl⟩
  have := Rel.fn (I := I) (w := w) f as_ bs _ _ r1.1 r1.2 r2.1 r2.2
  rwa [show (first.toList.map ρ).toArray = first.map ρ by apply Array.ext'; simp, show (captured.toList.map ρ).toArray = captured.map ρ by apply Array.ext'; simp] at this
end
end Go.Av
namespace Go.Av
open Go.RowKit Go.Pv
section
variable {P : Program} {e : Env} {d : Option Nat} {T T2 : TypeId} {pos : String} {after : Array Edge} {g : Option (Nat × Bool)} {x y z : Operand} {av : AV} {A : List Chunk}
theorem qZ {a : AV} (hx : opv e x = a) (hc : cc a = true ∨ ∃ cs, a = .agg cs) : OpR P ⟨d, .box T x, T2, pos, after, g⟩ e A (.cp (cellsOf a)) A := fun F I w ρ hI hρ => by
  have hv := hx ▸ hρ x
  have hrl := jj hv hc
  have X := hI.new_still (.cells (ρ x).cells.toList.toArray T)
  refine ⟨_, .pointer (some ⟨w.heap.size, 0, none⟩), _, _, ?_, .inl rfl, X, hI.alloc_still _, ?_⟩
  · simp only [execOp, Instr.box, newVar, newRow, Sem.run_bind, Sem.run_pure, run_newObj_alloc, Result.andThen_ok]
  · refine .cp _ w.heap.size 0 (fun j => (ρ x).cells.toList.getD j undef) (fun m hm => by simp [Info.still] at hm) (fun j hj => ?_) (fun j hj => (hrl.2 j hj).mono X)
    have hj' : j < (ρ x).cells.toList.length := by rw [hrl.1]; exact hj
    have hh := bJ w (.cells (ρ x).cells.toList.toArray T)
    simp only [World.cell?, hh, Nat.zero_add]
    have hj2 : j < (ρ x).cells.size := by simpa using hj'
    simp [List.getD, hj2]
theorem Inv.freezeCp {I : Info} {A : List Chunk} {w : World} {o : Nat} {cs : List AV} (h : Inv I (.obj o cs :: A) w) : ∃ I', Ext I w I' w ∧ Inv I' A w ∧ ∀ v, Rel I w (.pt o 0) v → Rel I' w (.cp cs) v := by
  obtain ⟨b, arr, ho, he, hca, hrl⟩ := h.holds _ (List.mem_cons_self ..)
  have hbl : (Chunk.obj o cs).blk I = some b := ho
  have E : Ext I w (I.stillN b cs.length) w := by
    refine ⟨rfl, rfl, rfl, Nat.le_refl _, fun b' hb' => ⟨rfl, ?_⟩, fun _ _ _ => rfl, fun b' m hs => ?_, fun _ _ x => x, fun _ _ x => x, fun _ _ x => x⟩
    · simp only [Info.stillN]
      rw [if_neg]
      · exact hb'
      · rintro rfl; rw [he] at hb'; cases hb'
    · intro q hq
      simp only [Info.stillN] at hq
      by_cases e : b' = b
      · subst e
        have := hs 0 he
        omega
      · rw [if_neg e] at hq; exact hs q hq
  refine ⟨I.stillN b cs.length, E, ?_, ?_⟩
  · have hA : Inv I A w := h.sub (List.sublist_cons_self ..)
    refine hA.keep E (fun c hc b' hb' => ⟨rfl, ?_⟩) (fun b' hb' => ?_) h.ids
    · simp only [Info.stillN]; rw [if_neg (h.other hbl c hc b' hb')]
    · have hlt := hca.lt
      simp only [Info.stillN]; rw [if_neg (by omega)]; exact h.fresh b' hb'
  · intro v hv
    cases hv with
    | pt o off b' ho' =>
      rw [ho] at ho'; cases ho'
      have hlen : arr.length = cs.length := hrl.1
      refine .cp _ b 0 (fun j => arr.getD j undef) ?_ ?_ ?_
      · intro q hq
        simp only [Info.stillN, if_true, Option.some.injEq] at hq
        omega
      · intro j hj
        rw [Nat.zero_add, hca.cell, List.getD, aw (by omega)]; rfl
      · intro j hj
        exact (hrl.2 j hj).mono E
end
section
variable {P : Program} {ro : Option Nat} {N : Nat} {Q : dj} {ops : Array Oper} {rest : List Nat} {e : Env} {ds : List ADef} {A : List Chunk}
theorem AR.freezeCp {o : Nat} {cs : List AV} (t i : Nat) (ht : ev e t = .pt o 0) (hA : A[i]? = some (.obj o cs)) (h : AR P ro N ops Q rest ⟨(t, .cp cs) :: e, ds, A.eraseIdx i⟩) : AR P ro N ops Q rest ⟨e, ds, A⟩ := fun F I w a hI hS => by
  have hp := js A i _ hA
  have hI2 : Inv I (.obj o cs :: (A.eraseIdx i ++ F)) w := hI.perm (hp.append_right F)
  obtain ⟨I', X, hI', hrel⟩ := hI2.freezeCp
  have hS' := hS.mono X
  refine cn rest (fun _ _ _ => dk X fun _ _ h => h) _ _ (h F I' w a hI' ⟨hS.size, fun j => ?_, hS'.ds⟩)
  have hj := hS'.env j
  simp only [ev]
  cases hb : Nat.beq t j with
  | false => exact hj
  | true =>
    have := Nat.eq_of_beq_eq_true hb
    subst this
    have hj0 := hS.env t
    simp only [ht] at hj0
    exact hrel _ hj0
end
section
variable {P : Program} {e : Env} {d : Option Nat} {T T2 : TypeId} {pos : String} {after : Array Edge} {g : Option (Nat × Bool)} {x y z : Operand} {av : AV} {A : List Chunk}
inductive WvL : List AV → List AV → Prop where
  | nil : WvL [] []
  | cons {a b : AV} {l m : List AV} (h : Wv a b) (g : WvL l m) : WvL (a :: l) (b :: m)
theorem WvL.refl : ∀ l, WvL l l
  | [] => .nil
  | a :: l => .cons (.refl a) (WvL.refl l)
theorem WvL.rel {I : Info} {w : World} : ∀ {l m : List AV} {xs : List Value}, WvL l m → RelL I w l xs → RelL I w m xs
  | _, _, _, .nil, h => h
  | _, _, _, .cons h g, hr => by
    obtain ⟨x, xs, rfl, h1, h2⟩ := hr.out_cons;exact cy (h.rel h1) (g.rel h2)
end
section
variable {P : Program}
end
section
variable {P : Program} {e : Env} {d : Option Nat} {T T2 T' : TypeId} {pos : String} {after : Array Edge} {g : Option (Nat × Bool)} {x y z : Operand}
end
section
variable {P : Program} {N : Nat} {fn : Func} {e : Env} {A : List Chunk} {av bv cv : AV}
def PlaceV (P : Program) (e : Env) (A : List Chunk) : ResultVar → AV → Prop
  | .tmp t, av => Wv (ev e t) av
  | .cell a t, av => CellV P e A a t av
def lK (tmps : Array Value) : ResultVar → Sem Value
  | .tmp t => pure (tmps.getD t undef)
  | .cell a t => do loadVar t (← asAddr (tmps.getD a undef))
theorem PlaceV.run {r : ResultVar} (h : PlaceV P e A r av) {F : List Chunk} {I : Info} {w : World} {tmps : Array Value} (hI : Inv I (A ++ F) w) (ht : ∀ t, Rel I w (ev e t) (tmps.getD t undef)) : ∃ x, (lK tmps r).run P w = .ok x w ∧ Rel I w av x := by
  cases r with
  | tmp t => exact ⟨_, rfl, Wv.rel h (ht t)⟩
  | cell a t =>
    obtain ⟨p, x, h1, h2, h3⟩ := h F I w _ hI (ht a);exact ⟨x, by simp only [lK, Sem.run_bind, h1, Result.andThen_ok, h2], h3⟩
theorem jA (tmps : Array Value) : results fn tmps = (do let vs ← fn.results.mapM (lK tmps); pure (if h : vs.size = 1 then vs[0] else .tuple vs)) := by
  unfold results
  congr 1
theorem oD {r : ResultVar} (hr : fn.results = #[r]) (h : PlaceV P e A r av) : ResT P fn N e A av := fun F I w tmps hI hs ht => by
  obtain ⟨x, h1, h2⟩ := h.run hI ht;refine ⟨x, ?_, h2⟩
  rw [jA, hr]
  simp [h1]
theorem kO {r q : ResultVar} (hr : fn.results = #[r, q]) (h : PlaceV P e A r av) (g : PlaceV P e A q bv) : ResT P fn N e A (.tup [av, bv]) := fun F I w tmps hI hs ht => by
  obtain ⟨x, h1, h2⟩ := h.run hI ht;obtain ⟨y, g1, g2⟩ := g.run hI ht;refine ⟨.tuple #[x, y], ?_, .tup _ [x, y] rfl (cy h2 (cy g2 di)).2⟩
  rw [jA, hr]
  simp [h1, g1]
end
end Go.Av
namespace Go.Av
theorem Inv.alloc_chunk {I : Info} {A : List Chunk} {w : World} (h : Inv I A w) {o : Nat} (ho : I.obj o = none) (x : Obj) {c : Chunk} (hcb : c.blk (I.putObj o w.heap.size) = some w.heap.size)
    (hc : c.Holds (I.putObj o w.heap.size) (w.alloc x)) : Inv (I.putObj o w.heap.size) (c :: A) (w.alloc x) := by
  have X := h.new_obj ho x
  have hlt : ∀ c ∈ A, ∀ b, c.blk I = some b → b ≠ w.heap.size := fun c hc b hb e => by
    have := (h.holds c hc).blk_lt hb; omega
  have K : Inv (I.putObj o w.heap.size) A (w.alloc x) := by
    refine h.keep X (fun c hc b hb => ⟨ca _ _ _ (hlt c hc b hb), by simp only [Info.putObj]; rw [if_neg (hlt c hc b hb)]⟩) (fun b hb => ?_) ?_
    · simp only [World.size_alloc] at hb
      simp only [Info.putObj]; rw [if_neg (by omega)]; exact h.fresh b (by omega)
    · obtain ⟨n, hn⟩ := h.ids
      refine ⟨max n (o + 1), fun x hx => ?_⟩
      have := hn x (by omega)
      refine ⟨?_, this.2⟩
      simp only [Info.putObj]; rw [if_neg (by omega)]; exact this.1
  refine K.cons hc ?_;intro b hb d hd e
  rw [hcb] at hb
  have := ((h.holds d hd).keep X (fun b' hb' => ⟨ca _ _ _ (hlt d hd b' hb'), by simp only [Info.putObj]; rw [if_neg (hlt d hd b' hb')]⟩)).2
  rw [this] at e
  exact hlt d hd b e (ap hb).symm
theorem Inv.set_chunk {I : Info} {A : List Chunk} {w : World} {c c' : Chunk} {b : Nat} (h : Inv I (c :: A) w) (hcb : c.blk I = some b) (hcb' : c'.blk I = some b) (he : I.ext b = some 0)
    (hnc : ∀ cs E fz, w.heap[b]? ≠ some (.cells cs E fz)) {w' : World} (hos : w'.os = w.os) (htape : w'.tape = w.tape) (hout : w'.output = w.output) (hsz : w'.heap.size = w.heap.size)
    (hne : ∀ b', b' ≠ b → w'.heap[b']? = w.heap[b']?) (hc : Ext I w I w' → c'.Holds I w') : Ext I w I w' ∧ Inv I (c' :: A) w' := by
  have X : Ext I w I w' := by
    refine ⟨hos, htape, hout, by omega, fun c hc => ?_, fun c j hj => ?_, fun _ _ h => h, fun _ _ h => h, fun _ _ h => h, fun c E hE => ?_⟩
    · have : c ≠ b := fun e => by rw [e, he] at hc; cases hc
      exact ⟨hne c this, hc⟩
    · have : c ≠ b := fun e => by have := hj 0 (by rw [e]; exact he); omega
      simp only [World.cell?, hne c this]
    · by_cases e : c = b
      · subst e; obtain ⟨d, fz, hd⟩ := hE; exact absurd hd (hnc _ _ _)
      · obtain ⟨d, fz, hd⟩ := hE; exact ⟨d, fz, (hne c e).trans hd⟩
  have hap := h.apart (c := c) (b := b) hcb
  refine ⟨X, Inv.cons ((h.sub (List.sublist_cons_self ..)).keep X (fun d hd b' hb' => ?_) (fun b' hb' => h.fresh b' (by omega)) h.ids) (hc X) (fun b' hb' d hd e => ?_)⟩
  · have : b' ≠ b := fun e => hap d hd (by rw [← e]; exact hb')
    exact ⟨hne b' this, rfl⟩
  · exact hap d hd (by rw [hcb'] at hb'; cases hb'; exact e)
section
variable {I : Info} {A : List Chunk} {w : World} {P : Program} {o N d : Nat} {st : LoopState} {pend : Option Code} {fn : FuncId} {env : Nat → AV} {ps : Array Tmp} {asg bd : Code}
theorem lg {l : Nat} (h : Inv I (.lp o .ready pend fn N env ps asg bd d :: A) w) (ho : I.obj o = some l) :
    ∃ w', (Instr.beginRound l).run P w = .ok () w' ∧ Ext I w I w' ∧ Inv I (.lp o .busy pend fn N env ps asg bd d :: A) w' := by
  obtain ⟨b, r, ho', he, hh, a1, a2, a3, a4, a5, a6, a7, a8, a9⟩ := h.holds _ (List.mem_cons_self ..)
  rw [ho] at ho'; cases ho'
  have hlt := (Array.getElem?_eq_some_iff.1 hh).1
  refine ⟨{ w with heap := w.heap.setIfInBounds l (.loop { r with state := .busy }) }, ?_, ?_⟩
  · simp only [Instr.beginRound, Instr.getLoop, getObj, setObj, Sem.run_bind, Sem.run, hh, Result.andThen]
    simp [a1, hh]
  · refine h.set_chunk (c' := .lp o .busy pend fn N env ps asg bd d) (show Chunk.blk I (.lp o .ready pend fn N env ps asg bd d) = some l from ho) (show Chunk.blk I (.lp o .busy pend fn N env ps asg bd d) = some l from ho) he (fun _ _ _ e => by rw [hh] at e; cases e) rfl rfl rfl (by simp) (fun b' hb' => by simp only []; rw [Array.getElem?_setIfInBounds_ne (Ne.symm hb')]) fun X => ?_
    exact ⟨l, { r with state := .busy }, ho, he, by simp [hlt], rfl, a2, a3, a4, fun t => (a5 t).mono X, a6, a7, a8, a9⟩
theorem ne {l : Nat} (h : Inv I (.lp o st pend fn N env ps asg bd d :: A) w) (ho : I.obj o = some l) (jump : Option Code) :
    ∃ w', (Instr.endRound l jump).run P w = .ok (.bool jump.isNone) w' ∧ Ext I w I w' ∧ Inv I (.lp o (if jump.isNone then .ready else .done) jump fn N env ps asg bd d :: A) w' := by
  obtain ⟨b, r, ho', he, hh, a1, a2, a3, a4, a5, a6, a7, a8, a9⟩ := h.holds _ (List.mem_cons_self ..)
  rw [ho] at ho'; cases ho'
  have hlt := (Array.getElem?_eq_some_iff.1 hh).1
  refine ⟨{ w with heap := w.heap.setIfInBounds l (.loop { r with state := if jump.isNone then .ready else .done, pending := jump }) }, ?_, ?_⟩
  · simp only [Instr.endRound, Instr.getLoop, getObj, setObj, Sem.run_bind, Sem.run, hh, Result.andThen]
    simp [hh]
  · refine h.set_chunk (c' := .lp o (if jump.isNone then .ready else .done) jump fn N env ps asg bd d) (show Chunk.blk I (.lp o st pend fn N env ps asg bd d) = some l from ho) (show Chunk.blk I (.lp o (if jump.isNone then .ready else .done) jump fn N env ps asg bd d) = some l from ho) he (fun _ _ _ e => by rw [hh] at e; cases e) rfl rfl rfl (by simp) (fun b' hb' => by simp only []; rw [Array.getElem?_setIfInBounds_ne (Ne.symm hb')]) fun X => ?_
    exact ⟨l, { r with state := if jump.isNone then .ready else .done, pending := jump }, ho, he, by simp [hlt], rfl, rfl, a3, a4, fun t => (a5 t).mono X, a6, a7, a8, a9⟩
theorem nT {l : Nat} (h : Inv I (.lp o st pend fn N env ps asg bd d :: A) w) (ho : I.obj o = some l) (hs : st ≠ .busy) :
    ∃ w', (Instr.endLoop l).run P w = .ok pend w' ∧ Ext I w I w' ∧ Inv I A w' := by
  obtain ⟨b, r, ho', he, hh, a1, a2, a3, a4, a5, a6, a7, a8, a9⟩ := h.holds _ (List.mem_cons_self ..)
  rw [ho] at ho'; cases ho'
  have hlt := (Array.getElem?_eq_some_iff.1 hh).1
  have hb : (r.state == LoopState.busy) = false := by rw [a1]; cases st <;> first | rfl | exact absurd rfl hs
  obtain ⟨X, hI⟩ := h.set_chunk (c' := .lp o .exhausted pend fn N env ps asg bd d) (w' := { w with heap := w.heap.setIfInBounds l (.loop { r with state := .exhausted }) }) (show Chunk.blk I (.lp o st pend fn N env ps asg bd d) = some l from ho) (show Chunk.blk I (.lp o .exhausted pend fn N env ps asg bd d) = some l from ho) he (fun _ _ _ e => by rw [hh] at e; cases e) rfl rfl rfl (by simp) (fun b' hb' => by simp only []; rw [Array.getElem?_setIfInBounds_ne (Ne.symm hb')]) fun X =>
    ⟨l, { r with state := .exhausted }, ho, he, by simp [hlt], rfl, a2, a3, a4, fun t => (a5 t).mono X, a6, a7, a8, a9⟩
  refine ⟨_, ?_, X, hI.sub (List.sublist_cons_self ..)⟩
  simp only [Instr.endLoop, Instr.getLoop, getObj, setObj, Sem.run_bind, Sem.run, hh, Result.andThen, hb, Bool.false_eq_true, if_false]
  simp [hh, a2, Sem.run, Result.andThen]
  intro e; exact absurd (a1.symm.trans e) hs
theorem qR {l : Nat} (h : Inv I (.lp o st pend fn N env ps asg bd d :: A) w) (ho : I.obj o = some l) (args : Array Value) (hn : args.size = ps.size) :
    ∃ tmps, (Instr.yield l args).run P w = .ok (.round l fn ((ps.zip args).foldl (fun tmps (t, a) => tmps.setIfInBounds t a) tmps) asg bd) w ∧ tmps.size = N ∧ ∀ t, Rel I w (env t) (tmps.getD t undef) := by
  obtain ⟨b, r, ho', he, hh, a1, a2, a3, a4, a5, a6, a7, a8, a9⟩ := h.holds _ (List.mem_cons_self ..)
  rw [ho] at ho'; cases ho'
  refine ⟨r.tmps, ?_, a4, a5⟩
  simp only [Instr.yield, Instr.getLoop, getObj, Sem.run_bind, Sem.run, hh, Result.andThen]
  simp [a3, a6, a7, a8, hn]
theorem mi (h : Inv I A w) {tmps : Array Value} (hs : tmps.size = N) (he : ∀ t, Rel I w (env t) (tmps.getD t undef)) :
    ∃ l b o2 o1 w' I', (Instr.enterLoop fn tmps ps asg bd none).run P w = .ok (l, [{ target := .collected b, args := #[] }]) w' ∧ Ext I w I' w' ∧ I'.obj o1 = some l ∧ I'.obj o2 = some b ∧ Inv I' (.lp o1 .ready none fn N env ps asg bd o2 :: .db o2 :: A) w' := by
  obtain ⟨o2, ho2⟩ := h.fresh_obj
  have X1 := h.new_obj ho2 (.deferred (some []))
  have hI1 := h.alloc_chunk ho2 (.deferred (some [])) (c := .db o2) (by simp [Chunk.blk, Info.putObj]) ⟨w.heap.size, by simp [Info.putObj], by simp [Info.putObj], bJ _ _⟩
  obtain ⟨o1, ho1⟩ := hI1.fresh_obj
  have X2 := hI1.new_obj ho1 (.loop { state := .ready, pending := none, fn, tmps, params := ps, assign := asg, body := bd, defers := w.heap.size })
  have hd : (Info.putObj I o2 w.heap.size).obj o2 = some w.heap.size := by simp [Info.putObj]
  have hI2 := hI1.alloc_chunk ho1 (.loop { state := .ready, pending := none, fn, tmps, params := ps, assign := asg, body := bd, defers := w.heap.size }) (c := .lp o1 .ready none fn N env ps asg bd o2) (by simp [Chunk.blk, Info.putObj])
    ⟨(w.alloc (.deferred (some []))).heap.size, { state := .ready, pending := none, fn, tmps, params := ps, assign := asg, body := bd, defers := w.heap.size }, by simp [Info.putObj], by simp [Info.putObj], bJ _ _, rfl, rfl, rfl, hs, fun t => ((he t).mono X1).mono X2, rfl, rfl, rfl, X2.obj _ _ hd⟩
  refine ⟨(w.alloc (.deferred (some []))).heap.size, w.heap.size, o2, o1, _, _, ?_, X1.trans X2, by simp [Info.putObj], X2.obj _ _ hd, hI2⟩
  simp only [Instr.enterLoop, newObj, Sem.run_bind, Sem.run, Result.andThen]
  rfl
end
end Go.Av
namespace Go.Av
open Go.RowKit
section
variable {P : Program} {ro : Option Nat} {N : Nat} {Q : dj} {ops : Array Oper}
def jy (P : Program) (o : Nat) (args : List AV) (A : List Chunk) (R : AE → List Chunk → Prop) : Prop :=
  ∀ F I w vs l, Inv I (A ++ F) w → I.obj o = some l → RelL I w args vs → ∃ fn tmps asg bd, (Instr.yield l vs.toArray).run P w = .ok (.round l fn tmps asg bd) w ∧
    RoundIn (cm none) 0 P l fn tmps asg bd w fun e w' => ∃ I' ae A', Ext I w I' w' ∧ Inv I' (A' ++ F) w' ∧ RelE I' w' ae e ∧ R ae A'
theorem rel_yl {I : Info} {w : World} {o : Nat} {v : Value} (h : Rel I w (.yl o) v) : ∃ l, v = .func (.yield l) #[] #[] ∧ I.obj o = some l := by
  cases h with
  | yl o l h => exact ⟨l, rfl, h⟩
theorem AO.yield {rest : List Nat} {d : Nat} {x : Operand} {o : Nat} {args : Array Operand} {argTypes : Array TypeId} {Ty : TypeId} {pos : String} {after : Array Edge} {g : Option (Nat × Bool)} {e : Env} {ds : List ADef} {A : List Chunk} (B T : List Chunk)
    {R : AE → List Chunk → Prop} {avs : List AV} (hd : Nat.blt d N = true) (hx : opv e x = .yl o) (ha : args.toList.map (opv e) = avs) (p : A = B ++ T)
    (h : jy P o avs T R) (k : ∀ av T', R (.ret av) T' → AR P none N ops Q rest ⟨(d, av) :: e, ds, B ++ T'⟩)
    (kp : ∀ c T', R (.pan c) T' → Q (.panic c) ⟨e, ds, B ++ T'⟩) :
    AO P none N ops Q rest ⟨some d, .call ⟨.value x, args, argTypes⟩, Ty, pos, after, g⟩ ⟨e, ds, A⟩ := fun F I w a hI hS => by
  subst p
  have hS' := hS
  obtain ⟨l, hv, ho⟩ := rel_yl (hx ▸ hS'.op x)
  have hrl : RelL I w avs (args.toList.map a.eval) := by
    rw [← ha]; exact RelL.map _ _ _ fun x _ => hS'.op x
  have hI2 : Inv I (T ++ (B ++ F)) w := by
    refine hI.perm ?_
    rw [← List.append_assoc]
    exact (List.perm_append_comm).append_right F
  obtain ⟨fn, tmps, asg, bd, hy, hR⟩ := h (B ++ F) I w _ l hI2 ho hrl;refine ⟨fun _ _ => cz _, ?_⟩
  have he : (#[] : Array Value) ++ args.map a.eval = (args.toList.map a.eval).toArray := by apply Array.ext'; simp
  have hex : (Oper.semAt (cm none).round a.eval ⟨some d, .call ⟨.value x, args, argTypes⟩, Ty, pos, after, g⟩).run P w = .ok (.round l fn tmps asg bd) w := by
    rw [Oper.semAt_eq _ _ _ (fun c h => by cases h)]
    simp only [execOp, resolve, hv, Deferred.ofValue, Sem.run_bind, Sem.run_pure, Result.andThen_ok, invoke, he, Array.append_empty]
    exact hy
  rw [hex]
  refine ⟨kf, hR.mono fun en w' ⟨I', ae, A', E, hI', hre, hR⟩ => ?_⟩
  have hI3 : Inv I' ((B ++ A') ++ F) w' := by
    refine hI'.perm ?_
    rw [← List.append_assoc]
    exact (List.perm_append_comm).append_right F
  cases en with
  | returned v =>
    cases ae with
    | ret av =>
      have hk := k av A' hR F I' w' (a.put (some d) v) hI3 ((hS.mono E).put (ag hd) hre _)
      exact cn rest (fun _ _ _ => dk E fun _ _ h => h) _ _ hk
    | pan c => exact hre.elim
  | panicked c =>
    cases ae with
    | ret av => exact hre.elim
    | pan c' =>
      cases hre
      exact ⟨I', ⟨e, ds, B ++ A'⟩, E, hI3, ⟨hS.size, (hS.mono E).env, (hS.mono E).ds⟩, kp _ A' hR⟩
  | outgrown => cases ae <;> exact hre.elim
def mQ {σ τ : Type} (T : σ → τ → List Chunk) (J : σ → Option Code) (R : AE → σ → Prop) : dj
  | .normal, s => ∃ s' t', R (.ret (.v (.bool true))) s' ∧ J s' = none ∧ Sub (T s' t') s.A
  | .ret, s => ∃ s' t', R (.ret (.v (.bool false))) s' ∧ J s' = some .ret ∧ Sub (T s' t') s.A
  | .exit id, s => ∃ s' t', R (.ret (.v (.bool false))) s' ∧ J s' = some (.exit id) ∧ Sub (T s' t') s.A
  | .goto l, s => ∃ s' t', R (.ret (.v (.bool false))) s' ∧ J s' = some (.goto l) ∧ Sub (T s' t') s.A
  | .panic _, _ => False
  | .outgrown, _ => False
def NoExit (K : St → Prop) : dj
  | .normal, s => K s
  | _, _ => False
def lS : List (Nat × AV) → Env → Env
  | [], e => e
  | p :: l, e => lS l (p :: e)
theorem lz {I : Info} {w : World} : ∀ (l : List (Nat × Value)) (m : List (Nat × AV)) (e : Env) (tmps : Array Value), tmps.size = N → (∀ t, Rel I w (ev e t) (tmps.getD t undef)) →
    l.map (·.1) = m.map (·.1) → (∀ p ∈ m, p.1 < N) → RelL I w (m.map (·.2)) (l.map (·.2)) →
    (l.foldl (fun tmps p => tmps.setIfInBounds p.1 p.2) tmps).size = N ∧ ∀ t, Rel I w (ev (lS m e) t) ((l.foldl (fun tmps p => tmps.setIfInBounds p.1 p.2) tmps).getD t undef)
  | [], m, e, tmps, hs, he, hk, hN, hr => by
    cases m with
    | nil => exact ⟨hs, he⟩
    | cons q m => simp at hk
  | p :: l, m, e, tmps, hs, he, hk, hN, hr => by
    cases m with
    | nil => simp at hk
    | cons q m =>
      simp only [List.map_cons, List.cons.injEq] at hk
      have hr' : RelL I w (q.2 :: m.map (·.2)) (p.2 :: l.map (·.2)) := hr
      have hS : RelS N I w ⟨e, [], []⟩ { tmps := tmps, defers := [] } := ⟨hs, he, .nil⟩
      have hp := hS.put (d := p.1) (by rw [hk.1]; exact hN q (List.mem_cons_self ..)) hr'.head []
      refine lz l m (q :: e) _ (by simpa using hs) (fun t => ?_) hk.2 (fun r hr => hN r (List.mem_cons_of_mem _ hr)) hr'.tail
      have := hp.env t
      have hq : q = (p.1, q.2) := by rw [hk.1]
      rw [hq]
      exact this
abbrev _root_.Go.Av.cZ := @List.perm_middle
theorem oJ (c d : Chunk) (A B C : List Chunk) : (A ++ (c :: B) ++ (d :: C)).Perm (c :: d :: (A ++ B ++ C)) := by
  have h1 : (A ++ (c :: B) ++ (d :: C)).Perm (d :: (A ++ (c :: B) ++ C)) := cZ
  have h2 : (A ++ (c :: B) ++ C).Perm (c :: (A ++ B ++ C)) := by
    rw [List.append_assoc, List.append_assoc, List.cons_append]
    exact cZ
  exact h1.trans ((h2.cons d).trans (List.Perm.swap ..))
theorem AW.rangeFunc {α σ τ : Type} {gf : Operand} {ps : Array Tmp} {asg bd : Code} {f : FuncId} {fs cs : List AV} {e : Env} {ds : List ADef} {A : List Chunk}
    (enc : α → List AV) (Own B : List Chunk) (T : σ → τ → List Chunk) (J : σ → Option Code) (D : σ → α → Prop) (RR : σ → α → AE → σ → Prop) (RE : AV → σ → List Chunk → Prop) (s₀ : σ) (t₀ : τ)
    (hg : opv e gf = .fn (.func f) fs cs) (hf : ∀ args w, (callFunc f args).run P w = .ok (.enter f args) w) (hps : ∀ x, (enc x).length = ps.size) (hN : ∀ p ∈ ps.toList, p < N)
    (p : A.Perm (Own ++ (T s₀ t₀ ++ B))) (hJ : J s₀ = none)
    (hround : ∀ l s t x, D s x → J s = none ∧ AW P (some l) N asg (NoExit (AW P (some l) N bd (mQ T J (RR s x)))) ⟨lS (ps.toList.zip (enc x)) e, [], T s t⟩)
    (hiter : ∀ (o : Nat) (T' : σ → τ → List Chunk), (∀ s t x, D s x → jy P o (enc x) (T' s t) fun ae A' => ∃ s' t', RR s x ae s' ∧ A' = T' s' t') →
      ACalls P f (fs ++ [.yl o] ++ cs) (Own ++ T' s₀ t₀) fun ae A' => ∃ v s₁ t₁ A1, ae = .ret v ∧ RE v s₁ A1 ∧ A' = A1 ++ T' s₁ t₁)
    (k : ∀ o2 v s₁ t₁ A1, RE v s₁ A1 → match J s₁ with
      | none => Q .normal ⟨e, .mark o2 :: ds, .db o2 :: (A1 ++ (T s₁ t₁ ++ B))⟩
      | some c => AW P none N c Q ⟨e, .mark o2 :: ds, .db o2 :: (A1 ++ (T s₁ t₁ ++ B))⟩) :
    AW P none N (.rangeFunc gf ps asg bd) Q ⟨e, ds, A⟩ := fun F I w a hI hS => by
  refine wpIn_rangeFunc fun fn hfn => ?_
  have hS0 := hS
  obtain ⟨xs, ys, hv, hxs, hys⟩ := qp (hg ▸ hS0.op gf);obtain ⟨l, b, o2, o1, w1, I1, hrun, E1, ho1, ho2, hI1⟩ := mi (P := P) (fn := fn) (ps := ps) (asg := asg) (bd := bd) (env := fun t => ev e t) hI hS.size hS.env
  have hS1 := hS.mono E1
  have he : xs.toArray ++ #[Value.func (.yield l) #[] #[]] ++ ys.toArray = (xs ++ [Value.func (.yield l) #[] #[]] ++ ys).toArray := by apply Array.ext'; simp
  refine ⟨l, _, w1, { target := .fn (.func f) ys.toArray, args := xs.toArray ++ #[Value.func (.yield l) #[] #[]] }, w1, f, (xs ++ [Value.func (.yield l) #[] #[]] ++ ys).toArray, w1, hrun, ?_, fun _ _ => cz _, ?_, kf, ?_⟩
  · have := je (P := P) (ρ := a.eval) (args := #[.const (.func (.yield l) #[] #[])]) (argTypes := #[]) (T := 0) (w := w1) hv
    simpa [rangeCall, Act.eval] using this
  · simp only [invoke, he]
    exact hf _ _
  -- the record's chunk
  obtain ⟨LP, hLP⟩ : ∃ LP : LoopState → Option Code → Chunk, LP = fun st j => .lp o1 st j fn N (fun t => ev e t) ps asg bd o2 := ⟨_, rfl⟩
  obtain ⟨T', hT'⟩ : ∃ T' : σ → τ → List Chunk, T' = fun s t => LP (if (J s).isNone then .ready else .done) (J s) :: T s t := ⟨_, rfl⟩
  have hY : ∀ s t x, D s x → jy P o1 (enc x) (T' s t) fun ae A' => ∃ s' t', RR s x ae s' ∧ A' = T' s' t' := by
    intro s t x hD F' I' w' vs l' hI' hol hrl;obtain ⟨hJs, hwalk⟩ := hround l' s t x hD
    have hT0 : T' s t = LP .ready none :: T s t := by rw [hT']; simp [hJs]
    rw [hT0] at hI'
    rw [hLP] at hI'
    obtain ⟨tmps, hyr, hts, htr⟩ := qR (P := P) (A := T s t ++ F') hI' hol vs.toArray (by rw [List.size_toArray, hrl.1]; exact hps x);refine ⟨fn, _, asg, bd, hyr, roundIn_of_wpIn hfn ?_⟩
    have hlen : vs.length = ps.toList.length := by rw [hrl.1, hps x]; simp
    have hzip : (ps.zip vs.toArray).toList = ps.toList.zip vs := by simp
    have hfold : (ps.zip vs.toArray).foldl (fun tmps p => tmps.setIfInBounds p.1 p.2) tmps = (ps.toList.zip vs).foldl (fun tmps p => tmps.setIfInBounds p.1 p.2) tmps := by
      rw [← hzip, Array.foldl_toList]
    have hput := lz (N := N) (ps.toList.zip vs) (ps.toList.zip (enc x)) e tmps hts htr
      (by rw [List.map_fst_zip (by omega), List.map_fst_zip (by have := hps x; simp; omega)])
      (fun q hq => hN _ (List.of_mem_zip hq).1)
      (by rw [List.map_snd_zip (by have := hps x; simp; omega), List.map_snd_zip (by omega)]; exact hrl)
    have hIp : Inv I' (T s t ++ (LP .ready none :: F')) w' := by
      rw [hLP]
      refine hI'.perm ?_;exact (cZ).symm
    have hSr : RelS N I' w' ⟨lS (ps.toList.zip (enc x)) e, [], T s t⟩ { tmps := (ps.zip vs.toArray).foldl (fun tmps (p : Nat × Value) => tmps.setIfInBounds p.1 p.2) tmps, defers := [] } := by
      refine ⟨(congrArg Array.size hfold).trans hput.1, fun t0 => ?_, .nil⟩
      have h0 := hput.2 t0
      rw [← hfold] at h0
      exact h0
    refine wpIn_mono (hwalk (LP .ready none :: F') I' w' _ hIp hSr) fun e1 a1 w1' hq1 => ?_
    obtain ⟨I2, s2, E2, hI2, hS2, hq1⟩ := hq1
    cases e1 with
    | normal =>
      have hI2p : Inv I2 (.lp o1 .ready none fn N (fun t => ev e t) ps asg bd o2 :: (s2.A ++ F')) w1' := by
        refine hI2.perm ?_
        rw [hLP]
        exact cZ
      obtain ⟨w2, hbr, E3, hI3⟩ := lg (P := P) hI2p (E2.obj _ _ hol);refine ⟨w2, hbr, ?_⟩
      have hI3p : Inv I2 (s2.A ++ (.lp o1 .busy none fn N (fun t => ev e t) ps asg bd o2 :: F')) w2 := hI3.perm (cZ).symm
      refine wpIn_mono (hq1 _ I2 w2 a1 hI3p (hS2.mono E3)) fun e3 a3 w3 hq3 => ?_
      obtain ⟨I4, s4, E4, hI4, hS4, hq3⟩ := hq3
      have hol4 := E4.obj _ _ (E3.obj _ _ (E2.obj _ _ hol))
      have E14 := (E2.trans E3).trans E4
      have fin : ∀ (jump : Option Code) (s' : σ) (t' : τ), J s' = jump → Sub (T s' t') s4.A → RR s x (.ret (.v (.bool jump.isNone))) s' →
          ∃ v w5, (Instr.endRound l' jump).run P w3 = .ok v w5 ∧ ∃ I5 ae A', Ext I' w' I5 w5 ∧ Inv I5 (A' ++ F') w5 ∧ RelE I5 w5 ae (.returned v) ∧ ∃ s' t', RR s x ae s' ∧ A' = T' s' t' := by
        intro jump s' t' hj hsub hr
        have hI4p : Inv I4 (.lp o1 .busy none fn N (fun t => ev e t) ps asg bd o2 :: (T s' t' ++ F')) w3 := by
          have h1 := hsub.inv hI4
          exact h1.perm cZ
        obtain ⟨w5, hend, E5, hI5⟩ := ne (P := P) hI4p hol4 jump;refine ⟨_, w5, hend, I4, .ret (.v (.bool jump.isNone)), T' s' t', E14.trans E5, ?_, .v _, s', t', hr, rfl⟩
        have : T' s' t' = .lp o1 (if jump.isNone then .ready else .done) jump fn N (fun t => ev e t) ps asg bd o2 :: T s' t' := by rw [hT', hLP, ← hj]
        rw [this]
        exact hI5
      cases e3 with
      | normal => obtain ⟨s', t', hr, hj, hsub⟩ := hq3; exact fin none s' t' hj hsub hr
      | ret => obtain ⟨s', t', hr, hj, hsub⟩ := hq3; exact fin (some .ret) s' t' hj hsub hr
      | exit id => obtain ⟨s', t', hr, hj, hsub⟩ := hq3; exact fin (some (.exit id)) s' t' hj hsub hr
      | goto q => obtain ⟨s', t', hr, hj, hsub⟩ := hq3; exact fin (some (.goto q)) s' t' hj hsub hr
      | panic c => exact hq3.elim
      | outgrown => exact hq3.elim
    | _ => exact hq1.elim
  -- the one call
  have hT0 : T' s₀ t₀ = LP .ready none :: T s₀ t₀ := by rw [hT']; simp [hJ]
  have hI1p : Inv I1 ((Own ++ T' s₀ t₀) ++ (.db o2 :: (B ++ F))) w1 := by
    refine hI1.perm ?_
    rw [hT0, hLP]
    have h1 : (A ++ F).Perm (Own ++ (T s₀ t₀ ++ (B ++ F))) := by
      refine (p.append_right F).trans (List.Perm.of_eq ?_)
      simp
    refine ((h1.cons _).cons _).trans ?_;exact (List.Perm.of_eq (by simp)).trans (oJ _ _ Own (T s₀ t₀) (B ++ F)).symm
  have hrl : RelL I1 w1 (fs ++ [.yl o1] ++ cs) (xs ++ [Value.func (.yield l) #[] #[]] ++ ys) :=
    ((hxs.mono E1).append (cy (.yl o1 l ho1) di)).append (hys.mono E1)
  refine (AO.call.callsIn_wide').2 ((hiter o1 T' hY _ I1 w1 _ hI1p hrl).mono fun en w2 ⟨I2, ae, A', E2, hI2, hre, av, s₁, t₁, A1, hae, hRE, hA'⟩ => ?_)
  have E12 := E1.trans E2
  subst hae
  cases en with
  | returned v =>
      have hA2 : A' = A1 ++ (LP (if (J s₁).isNone then .ready else .done) (J s₁) :: T s₁ t₁) := by rw [hA', hT']
      rw [hA2, hLP] at hI2
      have hI2p : Inv I2 (.lp o1 (if (J s₁).isNone then .ready else .done) (J s₁) fn N (fun t => ev e t) ps asg bd o2 :: (.db o2 :: (A1 ++ (T s₁ t₁ ++ B)) ++ F)) w2 := by
        refine hI2.perm ?_;exact (oJ _ _ A1 (T s₁ t₁) (B ++ F)).trans (List.Perm.of_eq (by simp))
      obtain ⟨w3, hend, E3, hI3⟩ := nT (P := P) hI2p (E2.obj _ _ ho1) (by split <;> simp)
      have hS3 : RelS N I2 w3 ⟨e, .mark o2 :: ds, .db o2 :: (A1 ++ (T s₁ t₁ ++ B))⟩ { a with defers := [{ target := .collected b, args := #[] }] ++ a.defers } :=
        ⟨hS.size, ((hS1.mono E2).mono E3).env, .cons (.mark o2 b (E3.obj _ _ (E2.obj _ _ ho2))) ((hS1.mono E2).mono E3).ds⟩
      have hk := k o2 av s₁ t₁ A1 hRE
      refine ⟨_, w3, hend, ?_⟩
      cases hj : J s₁ with
      | none => rw [hj] at hk; exact ⟨I2, _, E12.trans E3, hI3, hS3, hk⟩
      | some c => rw [hj] at hk; exact wpIn_mono (hk F I2 w3 _ hI3 hS3) fun _ _ _ => dk (E12.trans E3) fun _ _ h => h
  | panicked c => exact hre.elim
  | outgrown => exact hre.elim
theorem Inv.lose {I : Info} {A : List Chunk} {w : World} {c : Chunk} {b : Nat} (h : Inv I (c :: A) w) (hcb : c.blk I = some b) (he : I.ext b = some 0)
    (hnc : ∀ cs E fz, w.heap[b]? ≠ some (.cells cs E fz)) {w' : World} (hos : w'.os = w.os) (htape : w'.tape = w.tape) (hout : w'.output = w.output) (hsz : w'.heap.size = w.heap.size)
    (hne : ∀ b', b' ≠ b → w'.heap[b']? = w.heap[b']?) : Ext I w I w' ∧ Inv I A w' := by
  have X : Ext I w I w' := by
    refine ⟨hos, htape, hout, by omega, fun c hc => ?_, fun c j hj => ?_, fun _ _ h => h, fun _ _ h => h, fun _ _ h => h, fun c E hE => ?_⟩
    · have : c ≠ b := fun e => by rw [e, he] at hc; cases hc
      exact ⟨hne c this, hc⟩
    · have : c ≠ b := fun e => by have := hj 0 (by rw [e]; exact he); omega
      simp only [World.cell?, hne c this]
    · by_cases e : c = b
      · subst e; obtain ⟨d, fz, hd⟩ := hE; exact absurd hd (hnc _ _ _)
      · obtain ⟨d, fz, hd⟩ := hE; exact ⟨d, fz, (hne c e).trans hd⟩
  have hap := h.apart (c := c) (b := b) hcb
  refine ⟨X, (h.sub (List.sublist_cons_self ..)).keep X (fun d hd b' hb' => ?_) (fun b' hb' => h.fresh b' (by omega)) h.ids⟩
  have : b' ≠ b := fun e => hap d hd (by rw [← e]; exact hb')
  exact ⟨hne b' this, rfl⟩
inductive Unmark : List ADef → List Chunk → List Chunk → Prop where
  | nil (A : List Chunk) : Unmark [] A A
  | cons {o : Nat} {ds : List ADef} {A A1 B : List Chunk} (p : A.Perm (.db o :: A1)) (h : Unmark ds A1 B) : Unmark (.mark o :: ds) A B
theorem Unmark.sound {fn : Func} {R : Ending → World → Prop} {F : List Chunk} {e : Env} {u : FrameMode} (hu : u ≠ .run) : ∀ {ads : List ADef} {A B : List Chunk}, Unmark ads A B → ∀ (ds : List Deferred) (I : Info) (w : World) (a : Act), Inv I (A ++ F) w → RelS N I w ⟨e, ads, A⟩ a → a.defers = ds →
    (∀ w', Ext I w I w' → Inv I (B ++ F) w' → RelS N I w' ⟨e, [], B⟩ { a with defers := [] } → LeavesIn (cm none) 0 P fn a.tmps R [] u w') → LeavesInM (cm none) 0 P fn a.tmps R ds u w := by
  intro ads A B h
  induction h with
  | nil A =>
    intro ds I w a hI hS hd k
    have := fC hS.ds
    rw [hd] at this
    subst this
    have := k w (bx _ _) hI ⟨hS.size, hS.env, .nil⟩
    exact this
  | @cons o ads' A' A1 B' p h ih =>
    intro ds I w a hI hS hd k
    have hds := hS.ds
    rw [hd] at hds
    cases hds with
    | cons hm hds =>
      rename_i d ds'
      cases hm with
      | mark o b ho =>
        have hI1 : Inv I (.db o :: (A1 ++ F)) w := hI.perm (p.append_right F)
        obtain ⟨b', ho', he, hh⟩ := hI1.holds _ (List.mem_cons_self ..)
        rw [ho] at ho'; cases ho'
        obtain ⟨X, hI2⟩ := hI1.lose (w' := w.putObj b (.deferred none)) (b := b) ho he (fun _ _ _ e => by rw [hh] at e; cases e) rfl rfl rfl (by simp) (fun b' hb' => World.putObj_heap_other hb');refine ⟨hu, .inl ⟨b, w.putObj b (.deferred none), rfl, run_takeDeferred hh, ?_⟩⟩;exact ih ds' I _ { a with defers := ds' } hI2 ⟨hS.size, (hS.mono X).env, hds.mono X⟩ rfl (fun w' X' hI' hS' => k w' (X.trans X') hI' hS')
def RetPostM (P : Program) (fn : Func) (N : Nat) (R : AE → List Chunk → Prop) : dj
  | .normal, s | .ret, s => ∃ B, Unmark s.ds s.A B ∧ ∃ av A', ResV P fn N ⟨s.env, [], B⟩ av ∧ Sub A' B ∧ R (.ret av) A'
  | _, _ => False
theorem kW {f : FuncId} {fn : Func} {c : Code} {args : List AV} {A : List Chunk} {R : AE → List Chunk → Prop} (hf : P.funcs[f]? = some fn) (hb : fn.body = some c) (hl : Nat.ble args.length fn.ntmps = true)
    (h : AW P none fn.ntmps c (RetPostM P fn fn.ntmps R) ⟨jr 0 args, [], A⟩) : ACalls P f args A R := fun F I w vs hI hv => by
  refine (callsIn_wide (n := 0)).1 (callsIn_of_wp_marks (F := Fence.wide) hf hb trivial ?_)
  refine wpIn_mono (h F I w _ hI (rn hv (ag hl))) fun e a w' hq => ?_
  obtain ⟨I', s', E, hI', hS', hq⟩ := hq
  have go : (∃ B, Unmark s'.ds s'.A B ∧ ∃ av A', ResV P fn fn.ntmps ⟨s'.env, [], B⟩ av ∧ Sub A' B ∧ R (.ret av) A') → LeavesInM (cm none) 0 P fn a.tmps (fun e w' => ∃ I' ae A', Ext I w I' w' ∧ Inv I' (A' ++ F) w' ∧ RelE I' w' ae e ∧ R ae A') a.defers .returning w' := by
    rintro ⟨B, hu, av, A', hres, hsub, hR⟩
    refine Unmark.sound (N := fn.ntmps) (e := s'.env) (F := F) (by simp) hu a.defers I' w' a hI' hS' rfl fun w2 X hI2 hS2 => ?_
    obtain ⟨v, hrun, hv⟩ := hres F I' w2 { a with defers := [] } hI2 hS2;exact ⟨v, hrun, I', .ret av, A', E.trans X, hsub.inv hI2, hv, hR⟩
  cases e with
  | normal => exact go hq
  | ret => exact go hq
  | panic c => exact hq.elim
  | exit id => exact hq.elim
  | goto l => exact hq.elim
  | outgrown => exact hq.elim
def lJ {σ τ : Type} (T : σ → τ → List Chunk) (J : σ → Option Code) (rv : σ × Bool) : dj
  | .normal, s => rv.2 = true ∧ J rv.1 = none ∧ ∃ t', Sub (T rv.1 t') s.A
  | .ret, s => rv.2 = false ∧ J rv.1 = some .ret ∧ ∃ t', Sub (T rv.1 t') s.A
  | .exit id, s => rv.2 = false ∧ J rv.1 = some (.exit id) ∧ ∃ t', Sub (T rv.1 t') s.A
  | .goto l, s => rv.2 = false ∧ J rv.1 = some (.goto l) ∧ ∃ t', Sub (T rv.1 t') s.A
  | _, _ => False
theorem AW.rangeK {α σ τ : Type} {gf : Operand} {ps : Array Tmp} {asg bd : Code} {fs cs : List AV} {e : Env} {ds : List ADef} {A Own C B Own1 : List Chunk}
    (enc : α → List AV) (T : σ → τ → List Chunk) (J : σ → Option Code) (k : σ → α → Option (σ × Bool)) (s₀ : σ) (t₀ : τ) (s₁ : σ) (io it : List Nat) {f : FuncId}
    (hg : opv e gf = .fn (.func f) fs cs) (hf : ∀ args w, (callFunc f args).run P w = .ok (.enter f args) w) (hps : ∀ x, (enc x).length = ps.size) (hN : ∀ p ∈ ps.toList, p < N)
    (p1 : iU A io = some (Own, C)) (p2 : iU C it = some (T s₀ t₀, B)) (hJ : J s₀ = none)
    (hiter : ∀ (o : Nat) (T' : σ → τ → List Chunk), (∀ s t x rv, k s x = some rv → jy P o (enc x) (T' s t) fun ae A' => ∃ t', ae = .ret (.v (.bool rv.2)) ∧ A' = T' rv.1 t') →
      ACalls P f (fs ++ [.yl o] ++ cs) (Own ++ T' s₀ t₀) fun ae A' => ∃ t₁, ae = .ret (.tup []) ∧ A' = Own1 ++ T' s₁ t₁)
    (hround : ∀ l s t x rv, k s x = some rv → J s = none ∧ AW P (some l) N asg (NoExit (AW P (some l) N bd (lJ T J rv))) ⟨lS (ps.toList.zip (enc x)) e, [], T s t⟩)
    (kk : ∀ o2 t₁, match J s₁ with
      | none => Q .normal ⟨e, .mark o2 :: ds, .db o2 :: (Own1 ++ (T s₁ t₁ ++ B))⟩
      | some c => AW P none N c Q ⟨e, .mark o2 :: ds, .db o2 :: (Own1 ++ (T s₁ t₁ ++ B))⟩) :
    AW P none N (.rangeFunc gf ps asg bd) Q ⟨e, ds, A⟩ := by
  have hp : A.Perm (Own ++ (T s₀ t₀ ++ B)) := (dq io _ _ _ p1).trans ((dq it _ _ _ p2).append_left Own)
  refine AW.rangeFunc enc Own B T J (fun s x => ∃ rv, k s x = some rv) (fun s x ae s' => ∃ rv, k s x = some rv ∧ s' = rv.1 ∧ ae = .ret (.v (.bool rv.2))) (fun v s A1 => s = s₁ ∧ A1 = Own1) s₀ t₀ hg hf hps hN hp hJ ?_ ?_ ?_
  · rintro l s t x ⟨rv, hk⟩
    obtain ⟨h1, h2⟩ := hround l s t x rv hk
    have hpost : ∀ ex s1, lJ T J rv ex s1 → mQ T J (fun ae s' => ∃ rv, k s x = some rv ∧ s' = rv.1 ∧ ae = .ret (.v (.bool rv.2))) ex s1 := by
      intro ex s1 hq
      cases ex with
      | normal => obtain ⟨g1, g2, t', g3⟩ := hq; exact ⟨rv.1, t', ⟨rv, hk, rfl, by rw [g1]⟩, g2, g3⟩
      | ret => obtain ⟨g1, g2, t', g3⟩ := hq; exact ⟨rv.1, t', ⟨rv, hk, rfl, by rw [g1]⟩, g2, g3⟩
      | exit id => obtain ⟨g1, g2, t', g3⟩ := hq; exact ⟨rv.1, t', ⟨rv, hk, rfl, by rw [g1]⟩, g2, g3⟩
      | goto q => obtain ⟨g1, g2, t', g3⟩ := hq; exact ⟨rv.1, t', ⟨rv, hk, rfl, by rw [g1]⟩, g2, g3⟩
      | panic c => exact hq.elim
      | outgrown => exact hq.elim
    refine ⟨h1, h2.mono fun ex s1 hq => ?_⟩
    cases ex with
    | normal => exact AW.mono hq hpost
    | _ => exact hq
  · intro o T' hY
    refine (hiter o T' fun s t x rv hk => ?_).mono fun ae A' ⟨t₁, h1, h2⟩ => ⟨.tup [], s₁, t₁, Own1, h1, ⟨rfl, rfl⟩, h2⟩
    intro F I w vs l hI ho hv;obtain ⟨fn, tmps, asg', bd', hy, hR⟩ := hY s t x ⟨rv, hk⟩ F I w vs l hI ho hv;refine ⟨fn, tmps, asg', bd', hy, hR.mono fun en w' ⟨I', ae, A', E, hI', hre, s', t', ⟨rv', hk', hs, hae⟩, hA⟩ => ?_⟩
    rw [hk] at hk'
    cases hk'
    subst hs;exact ⟨I', ae, A', E, hI', hre, t', hae, hA⟩
  · rintro o2 v s t A1 ⟨rfl, rfl⟩
    exact kk o2 t
theorem AO.yieldT {σ τ : Type} {T : σ → τ → List Chunk} {s' : σ} {b : Bool} {rest : List Nat} {d : Nat} {x : Operand} {o : Nat} {args : Array Operand} {argTypes : Array TypeId} {Ty : TypeId} {pos : String} {after : Array Edge} {g : Option (Nat × Bool)} {e : Env} {ds : List ADef} {A : List Chunk} {avs : List AV}
    (m : Nat) (hd : Nat.blt d N = true) (hx : opv e x = .yl o) (ha : args.toList.map (opv e) = avs) (h : jy P o avs (A.drop m) fun ae A' => ∃ t', ae = .ret (.v (.bool b)) ∧ A' = T s' t')
    (k : ∀ t', AR P none N ops Q rest ⟨(d, .v (.bool b)) :: e, ds, A.take m ++ T s' t'⟩) :
    AO P none N ops Q rest ⟨some d, .call ⟨.value x, args, argTypes⟩, Ty, pos, after, g⟩ ⟨e, ds, A⟩ :=
  AO.yield (A.take m) (A.drop m) hd hx ha (List.take_append_drop m A).symm h (fun av T' ⟨t', h1, h2⟩ => by cases h1; subst h2; exact k t') (fun c T' ⟨t', h1, _⟩ => by cases h1)
theorem WK.atT {e l : Env} {ds : List ADef} {A B C : List Chunk} (m : Nat) (is : List Nat) (h : Env.le e l) (p : iU (A.take m) is = some (B, C)) : WK N ⟨e, ds, A⟩ ⟨l, ds, B ++ A.drop m⟩ := fun F I w a hI hS =>
  ⟨I, bx _ _, by
    have hp := dq is _ _ _ p
    have h0 : A = A.take m ++ A.drop m := (List.take_append_drop m A).symm
    have h1 : (A ++ F).Perm ((B ++ A.drop m) ++ (C ++ F)) := by
      have h2 : (A.take m ++ A.drop m).Perm (B ++ A.drop m ++ C) := by
        refine (hp.append_right (A.drop m)).trans ?_
        rw [List.append_assoc, List.append_assoc]
        exact List.Perm.append_left B List.perm_append_comm
      rw [← h0] at h2
      have := h2.append_right F
      simpa using this
    have h3 := hI.perm h1
    exact h3.sub (List.Sublist.append_left (List.sublist_append_right C F) _), ⟨hS.size, fun t => (h.ev t).rel (hS.env t), hS.ds⟩⟩
theorem Sub.atT {A B C : List Chunk} (m : Nat) (is : List Nat) (p : iU (A.take m) is = some (B, C)) : Sub (B ++ A.drop m) A := by
  have hp := dq is _ _ _ p
  have h2 : (B ++ A.drop m ++ C).Perm (A.take m ++ A.drop m) := by
    refine List.Perm.symm ((hp.append_right (A.drop m)).trans ?_)
    rw [List.append_assoc, List.append_assoc]
    exact List.Perm.append_left B List.perm_append_comm
  rw [List.take_append_drop] at h2
  obtain ⟨D, h1, h2⟩ := List.exists_perm_sublist (List.sublist_append_left (B ++ A.drop m) C) h2;exact ⟨D, h1, h2⟩
theorem Unmark.at {o : Nat} {ds : List ADef} {A B : List Chunk} (i : Nat) (h : A[i]? = some (.db o)) (k : Unmark ds (A.eraseIdx i) B) : Unmark (.mark o :: ds) A B := .cons (js A i _ h) k
end
end Go.Av
namespace Go.Pv
def cpyB (l b : List UInt8) : List UInt8 := b.take l.length ++ l.drop b.length
def jt (ls : List (List UInt8)) : Bool := (ls.isEmpty || !ls.flatten.isEmpty) && decide (ls.flatten.length ≤ 1000000000) && decide (ls.length ≤ 1000000000)
def qI (p : Nat → Bool) (s : List UInt8) : List (List UInt8) := (Go.Lib.goFieldsP p ⟨s.toArray⟩).map fun x => x.data.toList
end Go.Pv
namespace Go.Av
open Go.RowKit Go.Pv
section
variable {P : Program} {I : Info} {w : World} {e : Env} {d : Option Nat} {T : TypeId} {pos : String} {after : Array Edge} {g : Option (Nat × Bool)} {x y z z2 : Operand} {A : List Chunk}
theorem pe {α : Type} {E : Enc α} {l : List α} {a : Option Addr} {m lo hi El : Nat} {xs : List Value} (hsz : bf P El = some E.k) (hrl : RelL I w (E.fl l) xs)
    (hor : l.length = 0 ∨ ∃ b off, a = some ⟨b, off, none⟩ ∧ Stab I b (off + (E.fl l).length) ∧ ∀ j, j < (E.fl l).length → w.cell? ⟨b, off + j, none⟩ = some (xs.getD j undef)) (h1 : lo ≤ hi) (h2 : hi ≤ l.length) (hm : hi ≤ m) :
    Rel I w (slE E ((l.take hi).drop lo) none) (.slice (if m = lo then a else a.map (·.add (lo * E.k))) (hi - lo) (m - lo)) := by
  by_cases hz : hi - lo = 0
  · have : (l.take hi).drop lo = [] := aI (by simp; omega)
    rw [this, hz]
    exact .slz _ _ _
  · have hlen : ((l.take hi).drop lo).length = hi - lo := by simp; omega
    have hflen : (E.fl ((l.take hi).drop lo)).length = (hi - lo) * E.k := by rw [E.fl_length, hlen]
    rcases hor with h0 | ⟨b, off, rfl, hst, hc⟩
    · omega
    rw [if_neg (by omega)]
    have hfl : (E.fl l).length = l.length * E.k := E.fl_length l
    have hb : lo * E.k + (hi - lo) * E.k ≤ l.length * E.k := by rw [← Nat.add_mul]; exact Nat.mul_le_mul_right _ (by omega)
    rw [Option.map_some, bL]
    refine .sl _ _ _ _ _ _ _ (fun j => xs.getD (lo * E.k + j) undef) E.pos hflen.symm (by omega) (hst.le (by omega)) (fun j hj => ?_) (fun j hj => ?_) (fun t h => by cases h)
    · rw [← hc _ (by omega), Nat.add_assoc]
    · have hj' : lo * E.k + j < (E.fl l).length := by omega
      have h3 : (E.fl ((l.take hi).drop lo))[j] = (E.fl l)[lo * E.k + j] := by
        have h4 : (E.fl ((l.take hi).drop lo))[j]? = (E.fl l)[lo * E.k + j]? := by
          rw [E.fl_drop, E.fl_take, List.getElem?_drop, List.getElem?_take]
          rw [if_pos]
          have : hi * E.k = lo * E.k + (hi - lo) * E.k := by rw [← Nat.add_mul]; congr 1; omega
          omega
        rw [aw hj, aw hj'] at h4
        exact ap h4
      rw [h3]; exact hrl.2 _ hj'
theorem mo {α : Type} {E : Enc α} {l : List α} {t : Option Nat} {q q' : IntKind} {n n' : Int} {hi : Nat} {El T2 : TypeId} (hT : P.underlying T = some (.slice El)) (hsz : bf P El = some E.k) (hx : opv e x = slE E l t)
    (hz : opv e z = .v (.int q n)) (hz2 : opv e z2 = .v (.int q' n')) (hn : n = hi) (hn' : n' = hi) (h2 : hi ≤ l.length) : OpS P ⟨d, .slice T x none (some z) (some z2), T2, pos, after, g⟩ e (slE E (l.take hi) none) := fun I w ρ hρ => by
  obtain ⟨a, cap, xs, e1, hcap, hrl, hor⟩ := eD (hx ▸ hρ x)
  have e3 := bM (hz ▸ hρ z)
  have e4 := bM (hz2 ▸ hρ z2)
  refine ⟨.slice (if hi = 0 then a else a.map (·.add (0 * E.k))) (hi - 0) (hi - 0), ?_, fun w' _ _ => ?_⟩
  · have := pe (m := hi) hsz hrl hor (Nat.zero_le hi) h2 (Nat.le_refl _)
    simpa using this
  · simp only [execOp, e1, e3, e4, Option.map_some, Option.map_none, Instr.sliceAt, Instr.slice, Instr.sliceBounds, run_underlying hT, Sem.run_bind, Sem.run_pure, Result.andThen_ok, Option.isSome_none, Option.isSome_some, Bool.false_eq_true, if_false,
      if_true, dc hn' (Nat.le_trans h2 hcap), dc hn (Nat.le_refl hi), bh hsz]
theorem oa {α : Type} {E : Enc α} {l r : List α} {t : Option Nat} {q q' : IntKind} {b : Int} {El T2 : TypeId} (hT : P.underlying T = some (.slice El)) (hsz : bf P El = some E.k) (hx : opv e x = slE E l t)
    (hz : opv e z = .v (.int q b)) (hz2 : opv e z2 = .v (.int q' b)) (hg : fP b l.length = true) (hr : to_ l b = r) : OpS P ⟨d, .slice T x none (some z) (some z2), T2, pos, after, g⟩ e (slE E r none) := by
  obtain ⟨h1, h2⟩ := lT hg;subst hr;exact mo hT hsz hx hz hz2 (hi := b.toNat) (by omega) (by omega) (by omega)
theorem kn {α : Type} {E : Enc α} {l : List α} {cs : List AV} {len El T2 : Nat} (hk : E.k = 1) (hT : P.underlying T = some (.array len El)) (hsz : bf P El = some 1) (hx : opv e x = .cp cs) (hl : l.length = len) (hc : cs.take len = E.fl l) :
    OpS P ⟨d, .slice T x none none none, T2, pos, after, g⟩ e (slE E l none) := fun I w ρ hρ => by
  have h := hx ▸ hρ x
  generalize e1 : ρ x = v at h
  have hfl : (E.fl l).length = l.length := by rw [E.fl_length, hk, Nat.mul_one]
  cases h with
  | cp cs b off xs hst hx' hr =>
    have hle : l.length ≤ cs.length := by
      have := congrArg List.length hc
      rw [hfl, List.length_take] at this
      omega
    refine ⟨.slice (some ⟨b, off, none⟩) len len, ?_, fun w' _ _ => ?_⟩
    · unfold slE
      refine .sl _ _ _ b off len len xs E.pos (by rw [hk, hfl, hl, Nat.mul_one]) (Nat.le_refl _) (hst.le (by rw [hfl]; omega)) (fun j hj => hx' j (by rw [hfl] at hj; omega)) (fun j hj => ?_) (fun t h => by cases h)
      have hj' : j < cs.length := by rw [hfl] at hj; omega
      have h3 : (E.fl l)[j] = cs[j] := by
        have h4 : (E.fl l)[j]? = cs[j]? := by
          rw [← hc, List.getElem?_take]
          rw [if_pos (by rw [hfl] at hj; omega)]
        rw [aw hj, aw hj'] at h4
        exact ap h4
      rw [h3]; exact hr j hj'
    · simp only [execOp, e1, Option.map_none, Instr.sliceAt, Instr.sliceBounds, Sem.run_bind, Sem.run_pure, Result.andThen_ok, run_underlying hT, Instr.sureAddr, bh hsz]
      simp [bL]
theorem cpyB_len {l b : List UInt8} (h : b.length ≤ l.length) : (cpyB l b).length = l.length := by simp [cpyB]; omega
theorem byte_get {l : List UInt8} {n : Nat} (h : l.length = n) : Enc.byte.fl l = (List.range n).map fun i => u8 (l.getD i 0) := by
  rw [ef]
  refine List.ext_getElem (by simp [h]) fun j h1 h2 => ?_
  have hj : j < l.length := by simpa using h1
  simp [List.getD, hj]
theorem pp {l m r : List UInt8} {cs vs : List AV} {t : Option Nat} {o len cap : Nat} {El T2 T3 : TypeId} (k : Nat) (hT : P.underlying T = some (.slice El)) (hsz : bf P El = some 1) (hx : opv e x = .vw o 0 len cap) (hy : opv e y = slE Enc.byte m t)
    (hA : A[k]? = some (.obj o cs)) (hcs : cs = Enc.byte.fl l) (hlen : l.length = len) (hm : decide (m.length ≤ len) = true) (hr : cpyB l m = r) (hvs : (List.range len).map (fun i => u8 (r.getD i 0)) = vs) :
    OpR P ⟨d, .call ⟨.builtin .copy, #[x, y], #[T, T2]⟩, T3, pos, after, g⟩ e A (i64 m.length) (A.set k (.obj o vs)) := by
  have hm' := of_decide_eq_true hm
  have hl1 : (Enc.byte.fl l).length = l.length := by rw [ef]; simp
  have h := dP (d := d) (T2 := T2) (T3 := T3) (pos := pos) (after := after) (g := g) (E := Enc.byte) hT hsz hx hy hA hm' (by rw [hcs, hl1]; simp [Enc.byte]; omega)
  have : eJ cs 0 (Enc.byte.fl m) = vs := by
    rw [← hvs, ← byte_get (by rw [← hr, cpyB_len (by omega)]; exact hlen), ← hr, hcs]
    simp only [eJ, List.take_zero, List.nil_append, Nat.zero_add, cpyB, ef, List.map_append, List.map_take, List.map_drop, List.length_map]
    rw [List.take_of_length_le (by simp; omega)]
  rw [this] at h
  exact h
end
end Go.Av
namespace Go.Av
open Go.RowKit Go.Pv
section
variable {P : Program} {I : Info} {w w' : World} {A F : List Chunk}
theorem ml {l : List UInt8} {xs : List Value} (h : RelL I w (Enc.byte.fl l) xs) (i : Nat) (hi : i < l.length) : xs.getD i undef = .int .u8 ((Go.Lib.numsL l).getD i 0) := by
  rw [ef] at h
  have h1 := h.2 i (by simpa using hi)
  simp only [List.getElem_map] at h1
  have := bM h1
  rw [this]
  simp [Go.Lib.numsL, List.getD, hi]
theorem ci {l : List UInt8} {t : Option Nat} {v : Value} (h : Rel I w (slE Enc.byte l t) v) : ∃ a cap, v = .slice a l.length cap ∧ l.length ≤ cap ∧ Go.Lib.BytesIn w a l.length (Go.Lib.numsL l) ∧
    (l ≠ [] → ∃ b o, a = some ⟨b, o, none⟩ ∧ ∀ i, i < l.length → w.cell? ⟨b, o + i, none⟩ = some (.int .u8 ((Go.Lib.numsL l).getD i 0))) := by
  obtain ⟨a, cap, xs, e1, hcap, hrl, hor⟩ := eD h
  have hfl : (Enc.byte.fl l).length = l.length := by rw [ef]; simp
  have hc : l ≠ [] → ∃ b o, a = some ⟨b, o, none⟩ ∧ ∀ i, i < l.length → w.cell? ⟨b, o + i, none⟩ = some (.int .u8 ((Go.Lib.numsL l).getD i 0)) := by
    intro hne
    rcases hor with h0 | ⟨b, o, ha, _, hc⟩
    · exact absurd (List.eq_nil_of_length_eq_zero h0) hne
    · exact ⟨b, o, ha, fun i hi => by rw [hc i (by rw [hfl]; exact hi), ml hrl i hi]⟩
  refine ⟨a, cap, e1, hcap, ?_, hc⟩
  by_cases hne : l = []
  · subst hne; exact fun h => absurd h (Nat.lt_irrefl 0)
  · exact fun _ => hc hne
theorem oI {l : List UInt8} {t : Option Nat} {v : Value} (h : Rel I w (slE Enc.byte l t) v) (k : Nat) (hk : k < l.length) :
    ∃ b o cap, v = .slice (some ⟨b, o, none⟩) l.length cap ∧ l.length ≤ cap ∧ Rel I w (slE Enc.byte (l.drop k) none) (.slice (some ⟨b, o + k, none⟩) (l.length - k) (cap - k)) := by
  obtain ⟨a, cap, xs, e1, hcap, hrl, hor⟩ := eD h
  have hfl : ∀ m : List UInt8, (Enc.byte.fl m).length = m.length := fun m => by rw [ef]; simp
  rcases hor with h0 | ⟨b, o, ha, hst, hc⟩
  · omega
  · subst ha
    rw [hfl] at hst hc
    have hfd : Enc.byte.fl (l.drop k) = (Enc.byte.fl l).drop k := by
      have := Enc.fl_drop Enc.byte l k
      rwa [show k * Enc.byte.k = k from Nat.mul_one k] at this
    refine ⟨b, o, cap, e1, hcap, ?_⟩
    have := Rel.sl (I := I) (w := w) 1 (Enc.byte.fl (l.drop k)) none b (o + k) (l.length - k) (cap - k) (fun j => xs.getD (k + j) undef) Nat.one_pos (by rw [hfl]; simp) (by omega)
      (hst.le (by rw [hfl]; simp; omega)) (fun j hj => by rw [hfl] at hj; simp at hj; rw [Nat.add_assoc]; exact hc (k + j) (by omega)) (fun j hj => by
        have hj' := hj
        rw [hfl] at hj'; simp at hj'
        have h2 := hrl.2 (k + j) (by rw [hfl]; omega)
        simp only [hfd, List.getElem_drop]
        exact h2) (fun _ h => by cases h)
    exact this
theorem mj {l m : List UInt8} {t : Option Nat} {a : Option Addr} {cap : Nat} (h : Rel I w (slE Enc.byte l t) (.slice a l.length cap)) (hm : m ≠ []) :
    Rel I w (slE Enc.byte (Go.Lib.trimPrefix l m) none) (Go.Lib.trimPrefixV a l.length cap (Go.Lib.numsL l) (Go.Lib.numsL m)) := by
  obtain ⟨c, r, rfl⟩ : ∃ c r, m = c :: r := by cases m with
    | nil => exact absurd rfl hm
    | cons c r => exact ⟨c, r, rfl⟩
  by_cases hl : l = []
  · subst hl
    have e : Go.Lib.trimPrefix [] (c :: r) = [] := rfl
    rw [e]
    have : ∃ a' c', Go.Lib.trimPrefixV a ([] : List UInt8).length cap (Go.Lib.numsL []) (Go.Lib.numsL (c :: r)) = .slice a' 0 c' := by
      unfold Go.Lib.trimPrefixV
      split
      · exact ⟨_, _, by unfold Go.Lib.bytesTrimPrefix; rw [Go.Lib.bytesOf_numsL, Go.Lib.bytesOf_numsL]; rfl⟩
      · exact ⟨_, _, rfl⟩
    obtain ⟨a', c', e2⟩ := this
    rw [e2]
    exact .slz _ _ _
  · have hpos := List.length_pos_iff.2 hl
    obtain ⟨b, o, cap', e1, hcap, h0⟩ := oI h 0 hpos
    cases e1
    have hv : Go.Lib.trimPrefixV (some ⟨b, o, none⟩) l.length cap (Go.Lib.numsL l) (Go.Lib.numsL (c :: r)) = Go.Lib.bytesTrimPrefix b o l.length cap (Go.Lib.numsL l) (Go.Lib.numsL (c :: r)) := rfl
    rw [hv]
    unfold Go.Lib.bytesTrimPrefix Go.Lib.trimPrefix
    rw [Go.Lib.bytesOf_numsL, Go.Lib.bytesOf_numsL, Go.Lib.numsL_length]
    by_cases hp : Go.Lib.hasPrefix l (c :: r) = true
    · rw [if_pos hp, if_pos hp]
      have hle : (c :: r).length ≤ l.length := (List.isPrefixOf_iff_prefix.1 hp).length_le
      unfold Go.Lib.sliceFrom
      by_cases hlt : (c :: r).length < l.length
      · obtain ⟨b', o', cap', e1, _, h1⟩ := oI h (c :: r).length hlt
        cases e1
        rw [if_neg (by omega)]; exact h1
      · have e : l.drop (c :: r).length = [] := aI (by omega)
        rw [e, show l.length - (c :: r).length = 0 by omega]
        exact .slz _ _ _
    · rw [if_neg hp, if_neg hp]; exact h0
theorem qU {l : List (List UInt8)} {t : Option Nat} {v : Value} (h : Rel I w (slE (Enc.sl Enc.byte) l t) v) : ∃ a cap, v = .slice a l.length cap ∧ l.length ≤ cap ∧
    (l ≠ [] → ∃ b o vs, a = some ⟨b, o, none⟩ ∧ Go.Lib.PartsAt w ⟨b, o, none⟩ vs l) := by
  obtain ⟨a, cap, xs, e1, hcap, hrl, hor⟩ := eD h
  have hf : (Enc.sl Enc.byte).fl l = l.map fun x => slE Enc.byte x none := by
    clear hor hrl e1 hcap h
    induction l with
    | nil => rfl
    | cons c s ih => rw [Enc.fl_cons, ih]; rfl
  rw [hf] at hrl hor
  refine ⟨a, cap, e1, hcap, fun hne => ?_⟩
  rcases hor with h0 | ⟨b, o, ha, _, hc⟩
  · exact absurd (List.eq_nil_of_length_eq_zero h0) hne
  · simp only [List.length_map] at hc
    have hxl : xs.length = l.length := by rw [hrl.1]; simp
    refine ⟨b, o, xs, ha, hxl, fun i v hv => ?_, fun i v m hv hm => ?_⟩
    · have hi : i < l.length := by rw [← hxl]; exact (List.getElem?_eq_some_iff.1 hv).1
      rw [bL, hc i hi]
      simp [List.getD, hv]
    · have hi : i < l.length := (List.getElem?_eq_some_iff.1 hm).1
      have h1 := hrl.2 i (by simpa using hi)
      simp only [List.getElem_map] at h1
      rw [show xs.getD i undef = v by simp [List.getD, hv], (List.getElem?_eq_some_iff.1 hm).2] at h1
      obtain ⟨a', cap', e', _, _, h2⟩ := ci h1;refine ⟨a', cap', e', fun hn => ?_, fun ad had j x hx => ?_⟩
      · by_cases hme : m = []
        · exact hme
        · obtain ⟨b', o', ha', _⟩ := h2 hme; rw [hn] at ha'; cases ha'
      · have hj : j < m.length := (List.getElem?_eq_some_iff.1 hx).1
        obtain ⟨b', o', ha', h3⟩ := h2 (by intro e; subst e; simp at hj)
        rw [had] at ha'; cases ha'
        rw [bL, h3 j hj]
        simp [Go.Lib.numsL, List.getD, hx]
theorem Inv.new_tok (hI : Inv I A w) (hb : Below w.heap.size w w') {g n c : Nat} {arr : List Value} {E : TypeId} {fz : Nat × Nat} (hg : w.heap.size ≤ g) (hh : w'.heap[g]? = some (.cells arr.toArray E fz)) (hf : fz.1 = fz.2 ∨ arr.length ≤ fz.1) (hc : arr.length = c) (hn : n ≤ c) :
    ∃ t, Ext I w (I.putTok t g n c) w' ∧ Inv (I.putTok t g n c) (.tok t E :: A) w' := by
  obtain ⟨t, ht⟩ := hI.fresh_tok;obtain ⟨X0, hI'⟩ := Inv.below hI hb
  have hgf : I.ext g = some 0 := hI.fresh g hg
  have X : Ext I w (I.putTok t g n c) w' := by
    refine ⟨X0.os, X0.tape, X0.out, X0.size, fun b' hb' => ?_, fun b' j hj => ?_, fun b' k hk => ?_, fun o' b' h => h, fun s y hy => ?_, X0.elem⟩
    · have hb2 : b' ≠ g := fun e => by rw [e, hgf] at hb'; cases hb'
      exact ⟨(X0.blk b' hb').1, by simp only [Info.putTok]; rw [if_neg hb2]; exact hb'⟩
    · exact X0.cell b' j hj
    · intro k' hk'
      simp only [Info.putTok] at hk'
      split at hk'
      · rename_i e; subst e; cases hk'; have := hk 0 hgf; omega
      · exact hk k' hk'
    · simp only [Info.putTok]; rw [if_neg (fun e => by rw [e, ht] at hy; cases hy)]; exact hy
  have hlt : ∀ c' ∈ A, ∀ b, c'.blk I = some b → b ≠ g := fun c' hc' b hb' e => by
    have := (hI.holds c' hc').blk_lt hb'; omega
  have X2 : Ext I w' (I.putTok t g n c) w' := by
    refine ⟨rfl, rfl, rfl, Nat.le_refl _, fun b' hb' => ?_, fun b' j hj => rfl, X.ext, fun o' b' h => h, X.tok, fun _ _ h => h⟩
    have hb2 : b' ≠ g := fun e => by rw [e, hgf] at hb'; cases hb'
    exact ⟨rfl, by simp only [Info.putTok]; rw [if_neg hb2]; exact hb'⟩
  have K : Inv (I.putTok t g n c) A w' := by
    refine hI'.keep X2 (fun c' hc' b hb' => ⟨rfl, by simp only [Info.putTok]; rw [if_neg (hlt c' hc' b hb')]⟩) (fun b hb' => ?_) ?_
    · have hb2 : b ≠ g := fun e => by
        have := (Array.getElem?_eq_some_iff.1 hh).1; omega
      simp only [Info.putTok]; rw [if_neg hb2]; exact hI'.fresh b hb'
    · obtain ⟨k, hk⟩ := hI.ids
      refine ⟨max k (t + 1), fun x hx => ?_⟩
      have := hk x (by omega)
      refine ⟨this.1, ?_⟩
      simp only [Info.putTok]; rw [if_neg (by omega)]; exact this.2
  refine ⟨t, X, K.cons ⟨some g, n, c, by simp [Info.putTok], fun e => (by cases e), fun b e => ?_⟩ ?_⟩
  · cases e
    exact ⟨by simp [Info.putTok], hn, arr, ⟨E, fz, hh, by rw [hc] at hf ⊢; exact hf⟩, hc, arr.toArray, fz, hh⟩
  · intro b hb' d hd e
    simp only [Chunk.blk, Info.putTok, if_true, Option.bind_some, Option.some.injEq] at hb'
    have := ((hI'.holds d hd).keep X2 (fun b' hb'' => ⟨rfl, by simp only [Info.putTok]; rw [if_neg (hlt d hd b' hb'')]⟩)).2
    rw [this] at e
    exact hlt d hd b e hb'.symm
theorem ln {b j : Nat} {v : Value} (h : w.cell? ⟨b, j, none⟩ = some v) : ∃ arr E fz, w.heap[b]? = some (.cells arr E fz) := by
  unfold World.cell? at h
  cases ho : w.heap[b]? with
  | none => simp [ho] at h
  | some o => cases o <;> simp_all
theorem lF {l : List UInt8} {v : Value} (hI : Inv I A w) (hb : Below w.heap.size w w') (h : Go.Lib.FreshBytes w.heap.size w' v l) (hne : l ≠ []) :
    ∃ I' t, Ext I w I' w' ∧ Inv I' (.tokw t :: A) w' ∧ Rel I' w' (slE Enc.byte l (some t)) v := by
  obtain ⟨g, cap, zs, rfl, hg, hlc, hmax, hzl, hrange, hby, hcell, hfree⟩ := h
  have hl0 : 0 < l.length := List.length_pos_iff.2 hne
  obtain ⟨arr, E, fz, hh⟩ := ln (hcell 0 (by omega))
  have hsz : cap ≤ arr.size := by
    by_cases hc : cap = 0
    · omega
    · have := hcell (cap - 1) (by omega)
      simp only [World.cell?, hh, Option.isSome_none, Bool.false_eq_true, if_false] at this
      have := (Array.getElem?_eq_some_iff.1 this).1
      omega
  obtain ⟨t, ht⟩ := hI.fresh_tok;obtain ⟨X0, hI'⟩ := Inv.below hI hb
  have hgf : I.ext g = some 0 := hI.fresh g hg
  have X2 : Ext I w' (I.putTok t g l.length cap) w' := by
    refine ⟨rfl, rfl, rfl, Nat.le_refl _, fun b' hb' => ?_, fun b' j hj => rfl, fun b' k hk => ?_, fun o' b' h => h, fun s y hy => ?_, fun _ _ h => h⟩
    · have hb2 : b' ≠ g := fun e => by rw [e, hgf] at hb'; cases hb'
      exact ⟨rfl, by simp only [Info.putTok]; rw [if_neg hb2]; exact hb'⟩
    · intro k' hk'
      simp only [Info.putTok] at hk'
      split at hk'
      · rename_i e; subst e; cases hk'; have := hk 0 hgf; omega
      · exact hk k' hk'
    · simp only [Info.putTok]; rw [if_neg (fun e => by rw [e, ht] at hy; cases hy)]; exact hy
  have hlt : ∀ c' ∈ A, ∀ b, c'.blk I = some b → b ≠ g := fun c' hc' b hb' e => by
    have := (hI.holds c' hc').blk_lt hb'; omega
  have K : Inv (I.putTok t g l.length cap) A w' := by
    refine hI'.keep X2 (fun c' hc' b hb' => ⟨rfl, by simp only [Info.putTok]; rw [if_neg (hlt c' hc' b hb')]⟩) (fun b hb' => ?_) ?_
    · have hb2 : b ≠ g := fun e => by
        have := (Array.getElem?_eq_some_iff.1 hh).1; omega
      simp only [Info.putTok]; rw [if_neg hb2]; exact hI'.fresh b hb'
    · obtain ⟨k, hk⟩ := hI.ids
      refine ⟨max k (t + 1), fun x hx => ?_⟩
      have := hk x (by omega)
      refine ⟨this.1, ?_⟩
      simp only [Info.putTok]; rw [if_neg (by omega)]; exact this.2
  have hK : Inv (I.putTok t g l.length cap) (.tokw t :: A) w' := by
    refine K.cons ⟨g, l.length, cap, arr, E, fz, by simp [Info.putTok], by simp [Info.putTok], hlc, hh, hsz, hfree⟩ ?_;intro b hb' d hd e
    simp only [Chunk.blk, Info.putTok, if_true, Option.bind_some, Option.some.injEq] at hb'
    have := ((hI'.holds d hd).keep X2 (fun b' hb'' => ⟨rfl, by simp only [Info.putTok]; rw [if_neg (hlt d hd b' hb'')]⟩)).2
    rw [this] at e
    exact hlt d hd b e hb'.symm
  refine ⟨_, t, X0.trans X2, hK, ?_⟩
  have hfl : (Enc.byte.fl l).length = l.length := by rw [ef]; simp
  have hzl2 : (zs.take l.length).length = l.length := by simp; omega
  unfold slE
  refine .sl 1 _ (some t) g 0 _ _ (fun j => .int .u8 (zs.getD j 0)) (by decide) (by rw [hfl, Nat.mul_one]) hlc (fun m hm => ?_) (fun j hj => ?_) (fun j hj => ?_) (fun t' e => ?_)
  · simp only [Info.putTok, if_true, Option.some.injEq] at hm
    rw [hfl]; omega
  · rw [Nat.zero_add]; exact hcell j (by rw [hfl] at hj; omega)
  · have hj' : j < l.length := by rw [hfl] at hj; exact hj
    have h1 : (Enc.byte.fl l)[j] = u8 l[j] := by simp only [ef, List.getElem_map]
    rw [h1]
    have hz : zs.getD j 0 = (l[j].toNat : Int) := by
      have h2 : l[j] = (Go.Lib.bytesOf (zs.take l.length))[j]'(by rw [hby]; exact hj') := by simp only [hby]
      rw [h2]
      simp only [Go.Lib.bytesOf, List.getElem_map, List.getElem_take]
      have hr := hrange (zs[j]'(by omega)) (List.getElem_mem _)
      rw [List.getD, aw (by omega), Option.getD_some]
      simp only [UInt8.toNat_ofNat']
      omega
    rw [hz]
    exact .v _
  · cases e
    exact ⟨by simp [Info.putTok, hfl], rfl⟩
theorem Inv.tokw_of {t b n c : Nat} {E0 : TypeId} (hI : Inv I (.tok t E0 :: A) w) (ht : I.tok t = some (some b, n, c)) : Inv I (.tokw t :: A) w := by
  obtain ⟨ob, n', c', ht2, _, hh⟩ := hI.holds _ (List.mem_cons_self ..)
  rw [ht] at ht2; cases ht2
  obtain ⟨he, hnc, arr, hca, hal, _⟩ := hh b rfl;refine Inv.cons (hI.sub (List.sublist_cons_self ..)) ?_ (fun b' hb' d hd e => hI.apart (c := .tok t E0) (b := b') hb' d hd e);obtain ⟨E, fz, h1, _⟩ := id hca;exact ⟨b, n, c, arr.toArray, E, fz, ht, he, hnc, h1, by simp [hal], fun j hj => hca.free (by omega)⟩
theorem Inv.growW {t t' b n c : Nat} (h : Inv I (.tokw t :: A) w) (ht : I.tok t = some (some b, n, c)) (ht' : I.tok t' = none) {w' : World} (m : Nat) (hm : n + m ≤ c)
    (hos : w'.os = w.os) (htape : w'.tape = w.tape) (hout : w'.output = w.output) (hsz : w'.heap.size = w.heap.size)
    (hne : ∀ b', b' ≠ b → w'.heap[b']? = w.heap[b']?) (hin : ∀ j, j < n → w'.cell? ⟨b, j, none⟩ = w.cell? ⟨b, j, none⟩)
    (hat : ∃ arr E fz, w'.heap[b]? = some (.cells arr E fz) ∧ c ≤ arr.size ∧ ∀ j, j < c → w'.frozen? ⟨b, j, none⟩ = false) (hel : ∀ E, ElemAt w b E → ElemAt w' b E) :
    Ext I w (I.putTok t' b (n + m) c) w' ∧ Inv (I.putTok t' b (n + m) c) (.tokw t' :: A) w' := by
  obtain ⟨b0, n', c', arr0, E0, fz0, ht2, he, hnc, hh0, hsz0, hfr0⟩ := h.holds _ (List.mem_cons_self ..)
  rw [ht] at ht2; cases ht2
  have hblt : b < w.heap.size := (Array.getElem?_eq_some_iff.1 hh0).1
  have X : Ext I w (I.putTok t' b (n + m) c) w' := by
    refine ⟨hos, htape, hout, by omega, fun b' hb' => ?_, fun b' j hj => ?_, fun b' k hk => ?_, fun o' b' hb' => hb', fun s y hy => ?_, fun b' E hE => ?_⟩
    · have hb2 : b' ≠ b := fun e => by rw [e, he] at hb'; cases hb'
      exact ⟨hne b' hb2, by simp only [Info.putTok]; rw [if_neg hb2]; exact hb'⟩
    · by_cases hb2 : b' = b
      · subst hb2; exact hin j (by have := hj n he; omega)
      · simp only [World.cell?, hne b' hb2]
    · intro k' hk'
      simp only [Info.putTok] at hk'
      split at hk'
      · rename_i e; subst e; cases hk'; have := hk n he; omega
      · exact hk k' hk'
    · simp only [Info.putTok]; rw [if_neg (fun e => by rw [e, ht'] at hy; cases hy)]; exact hy
    · by_cases hb2 : b' = b
      · subst hb2; exact hel E hE
      · obtain ⟨c1, fz1, h1⟩ := hE; exact ⟨c1, fz1, (hne b' hb2).trans h1⟩
  have hap := h.apart (c := .tokw t) (b := b) (by simp [Chunk.blk, ht])
  have K : Inv (I.putTok t' b (n + m) c) A w' := by
    refine (h.sub (List.sublist_cons_self ..)).keep X (fun d hd b' hb' => ?_) (fun b' hb' => ?_) ?_
    · have hb2 : b' ≠ b := fun e => hap d hd (by rw [← e]; exact hb')
      exact ⟨hne b' hb2, by simp only [Info.putTok]; rw [if_neg hb2]⟩
    · simp only [Info.putTok]; rw [if_neg (by omega)]; exact h.fresh b' (by omega)
    · obtain ⟨k, hk⟩ := h.ids
      refine ⟨max k (t' + 1), fun x hx => ?_⟩
      have := hk x (by omega)
      refine ⟨this.1, ?_⟩
      simp only [Info.putTok]; rw [if_neg (by omega)]; exact this.2
  obtain ⟨arr, E, fz, g1, g2, g3⟩ := hat;refine ⟨X, K.cons ⟨b, n + m, c, arr, E, fz, by simp [Info.putTok], by simp [Info.putTok], hm, g1, g2, g3⟩ ?_⟩;intro b' hb' d hd e
  simp only [Chunk.blk, Info.putTok, if_true, Option.bind_some, Option.some.injEq] at hb'
  subst hb'
  have hd2 : d.blk I ≠ some b := hap d hd
  have := ((h.holds d (List.mem_cons_of_mem _ hd)).keep X (fun b' hb' => by
    have hb2 : b' ≠ b := fun e => hd2 (by rw [← e]; exact hb')
    exact ⟨hne b' hb2, by simp only [Info.putTok]; rw [if_neg hb2]⟩)).2
  rw [this] at e
  exact hd2 e
theorem iW (b : Nat) : ∀ (xs : List Value) (j : Nat) (w : World) {arr : Array Value} {E : TypeId} {fz : Nat × Nat}, w.heap[b]? = some (.cells arr E fz) → ∃ arr' : Array Value, (w.setCells b j xs).heap[b]? = some (.cells arr' E fz) ∧ arr'.size = arr.size
  | [], j, w, arr, E, fz, h => ⟨arr, h, rfl⟩
  | x :: xs, j, w, arr, E, fz, h => by
    have h1 : (w.setCell ⟨b, j, none⟩ x).heap[b]? = some (.cells (arr.setIfInBounds j x) E fz) := by
      simp only [World.setCell, Array.getElem?_modify, if_true, h, Option.map_some]
      rfl
    obtain ⟨arr', g1, g2⟩ := iW b xs (j + 1) _ h1;exact ⟨arr', g1, by rw [g2]; simp⟩
theorem nU {T T2 El : TypeId} {D2 : TypeDesc} {k bytes n m t : Nat} {cs ms : List AV} {v u : Value} {ty : TypeId}
    (hT : P.underlying T = some (.slice El)) (hT2 : P.underlying T2 = some D2) (hD2 : eF D2 = false) (hE : cb P El = some (k, bytes)) (hk : 0 < k)
    (hI : Inv I (.tokw t :: A) w) (hv : Rel I w (.sl k cs (some t)) v) (hn : cs.length = n * k) (hu : Src P I w k u ms m) (hcell : ∀ c ∈ ms, cc c = true) (hb : (n + m) * bytes ≤ 140737488355328) (hs : n + m ≤ 140737488355328) :
    ∃ v' w' I' t', (Builtin.append_ #[T, T2] ty #[v, u]).run P w = .ok v' w' ∧ Ext I w I' w' ∧ Inv I' (.tokw t' :: A) w' ∧ Rel I' w' (.sl k (cs ++ ms) (some t')) v' := by
  obtain ⟨i, z, hi, hz, hzs, hsz, hby⟩ := dM hE
  have hu0 := hu
  obtain ⟨xs, hml, hrl, hlen, hfirst⟩ := hu
  have hxl : xs.length = m * k := by rw [hrl.1, hml]
  have hone : ∀ x ∈ xs, x.oneCell' = true := by
    intro x hx;obtain ⟨j, hj, rfl⟩ := List.getElem_of_mem hx
    have hj' : j < ms.length := by rw [← hrl.1]; exact hj
    have := hrl.2 j hj'
    rw [show xs.getD j undef = xs[j] by simp [List.getD, hj]] at this
    exact dN this (hcell _ (List.getElem_mem hj'))
  have hcz : bf P El = some k := by simp only [bf, hi, Option.map_some, hsz]
  obtain ⟨b0, n0, c0, arr0, E0, fz0, ht0, he0, hnc0, hh0, hsz0, hfr0⟩ := hI.holds _ (List.mem_cons_self ..)
  cases hv with
  | slnil k t ht => rw [ht0] at ht; cases ht
  | sl k cs t' b off len cap f hk' hlen' hcap hst hx hr ht =>
    obtain ⟨htk, rfl⟩ := ht t rfl
    have hln : len = n := Nat.eq_of_mul_eq_mul_right hk (hlen'.trans hn)
    subst hln
    obtain ⟨rfl, rfl, rfl⟩ : b = b0 ∧ cs.length = n0 ∧ cap * k = c0 := by rw [htk] at ht0; cases ht0; exact ⟨rfl, rfl, rfl⟩
    by_cases hfit : len + m ≤ cap
    · obtain ⟨t', ht'⟩ := hI.fresh_tok
      have hle : len * k + m * k ≤ cap * k := by rw [← Nat.add_mul]; exact Nat.mul_le_mul_right _ hfit
      have hex : ∀ j, j < cap * k → ∃ v, w.cell? ⟨b, j, none⟩ = some v := fun j hj => by
        refine ⟨arr0[j]'(by omega), ?_⟩
        simp [World.cell?, hh0, show j < arr0.size by omega]
      have hst' : (storeCells ⟨b, len * k, none⟩ xs).run P w = .ok () (w.setCells b (len * k + 0) xs) := by
        refine run_storeCells_cells b (len * k) xs 0 w (fun j hj => ?_) (fun j hj => ?_) hone
        · obtain ⟨v, hv⟩ := hex (len * k + 0 + j) (by omega)
          simp only [Nat.add_zero] at hv ⊢
          rw [hv]; rfl
        · exact hfr0 _ (by omega)
      simp only [Nat.add_zero] at hst'
      obtain ⟨r1, r2, r3, r4⟩ := gJ b xs (len * k) w
      have hcell' : ∀ j, j < len * k → (w.setCells b (len * k) xs).cell? ⟨b, j, none⟩ = w.cell? ⟨b, j, none⟩ := fun j hj => World.cell?_setCells_out b xs _ w _ (fun _ _ => .inl hj)
      obtain ⟨arr', hca', hal'⟩ := iW b xs (len * k) w hh0
      have hfr' : ∀ j, j < cap * k → (w.setCells b (len * k) xs).frozen? ⟨b, j, none⟩ = false := fun j hj => by
        have := hfr0 j hj
        simp only [World.frozen?, hh0] at this
        simp only [World.frozen?, hca']
        exact this
      obtain ⟨E, hI'⟩ := hI.growW htk ht' (m * k) (by rw [← hlen']; exact hle) r1 r2 r3 r4 (fun b' hb' => fp b xs _ w b' hb') (by rw [← hlen']; exact hcell') ⟨arr', E0, fz0, hca', by rw [hal']; exact hsz0, hfr'⟩ (fun E hE => gK b xs _ w E hE);refine ⟨.slice (some ⟨b, 0, none⟩) (len + m) cap, _, _, t', ?_, E, hI', ?_⟩
      · cases D2 <;> cases hD2
        all_goals
          simp only [Builtin.append_, List.getElem?_toArray, List.getElem?_cons_zero, List.getElem?_cons_succ, run_underlying hT, run_underlying hT2, Sem.run_bind, Sem.run_pure, Result.andThen_ok, bh hcz, hlen, Bool.false_eq_true, if_false]
          rw [if_pos hfit]
          simp only [Sem.run_bind, hfirst w (fun _ _ _ => rfl), Bool.not_false, if_true, Result.andThen_ok, Sem.run_pure, bL, Nat.zero_add, hst']
      · refine .sl k _ _ _ 0 _ _ (fun j => if j < cs.length then f j else xs.getD (j - cs.length) undef) hk (by rw [List.length_append, ← hlen', hml, Nat.add_mul]) hfit ?_ ?_ ?_ ?_
        · intro q hq
          simp only [Info.putTok, if_true, Option.some.injEq] at hq
          subst hq; simp only [List.length_append, hml]; omega
        · intro j hj
          by_cases hjc : j < cs.length
          · rw [if_pos hjc, Nat.zero_add, hcell' j (by omega)]
            have := hx j hjc
            rwa [Nat.zero_add] at this
          · rw [if_neg hjc]
            have hj2 : j - cs.length < xs.length := by simp only [List.length_append, hml] at hj; omega
            have := World.cell?_setCells_in b xs (len * k) w (fun i hi => by obtain ⟨v, hv⟩ := hex (len * k + i) (by omega); rw [hv]; rfl) (j - cs.length) hj2
            rw [show 0 + j = len * k + (j - cs.length) by omega, this]
            simp [List.getD, hj2]
        · intro j hj
          by_cases hjc : j < cs.length
          · rw [if_pos hjc, List.getElem_append_left hjc]; exact (hr j hjc).mono E
          · rw [if_neg hjc, List.getElem_append_right (by omega)]
            exact (hrl.2 _ (by simp only [List.length_append] at hj; omega)).mono E
        · intro q hq
          cases hq
          exact ⟨by simp [Info.putTok, List.length_append, ← hlen', hml], rfl⟩
    · have hg : ∀ j, j < cs.length → ((List.range cs.length).map f).getD j undef = f j := fun j hj => by simp [List.getD, hj]
      obtain ⟨v1, w1, I1, t1, g1, g2, g3, g4⟩ := mI (ty := ty) (u := u) hT hT2 hD2 hE hk (hI.sub (List.sublist_cons_self ..)) hn hu0 hcell hb hs (some ⟨b, 0, none⟩) cap ((List.range cs.length).map f) (by simp) ⟨by simp, fun j hj => by rw [hg j hj]; exact hr j hj⟩ (by omega) (fun w' hw => by
        refine run_firstCells_some _ k len _ _ _ _ (by simp [hlen']) (fun j v hj => ?_)
        have hlt : j < cs.length := by have := (List.getElem?_eq_some_iff.1 hj).1; simpa using this
        rw [bL, hw b (0 + j) (hst.le (by omega)), hx j hlt]
        rw [← hg j hlt]
        simp only [List.getD, hj, Option.getD_some])
      refine ⟨v1, w1, I1, t1, g1, g2, ?_, g4⟩
      have hpos : 0 < (cs ++ ms).length := by
        simp only [List.length_append, hml, hn]
        have : 0 < (len + m) * k := Nat.mul_pos (by omega) hk
        rw [Nat.add_mul] at this
        exact this
      generalize hcm : cs ++ ms = q at g4 hpos
      cases g4 with
      | slnil k t ht => simp at hpos
      | sl k cs t' b off len cap f hk' hlen' hcap hst hx hr ht => exact Inv.tokw_of g3 (ht t1 rfl).1
variable {e : Env} {d : Option Nat} {T : TypeId} {pos : String} {after : Array Edge} {g : Option (Nat × Bool)} {x y : Operand}
theorem kS {l m : List UInt8} {t : Nat} {El T2 T3 bytes : Nat} {D2 : TypeDesc} (i : Nat) (hT : P.underlying T = some (.slice El)) (hT2 : P.underlying T2 = some D2) (hD2 : eF D2 = false) (hE : cb P El = some (1, bytes))
    (hx : opv e x = slE Enc.byte l (some t)) (hy : opv e y = S m) (hA : A[i]? = some (.tokw t)) (hb : (l.length + m.length) * bytes ≤ 140737488355328) (hs : l.length + m.length ≤ 140737488355328) :
    OpX P ⟨d, .call ⟨.builtin .append, #[x, y], #[T, T2]⟩, T3, pos, after, g⟩ e A (fun av A' => ∃ t', av = slE Enc.byte (l ++ m) (some t') ∧ A' = A.set i (.tokw t')) := fun F I w ρ hI hρ => by
  have e2 := bM (hy ▸ hρ y)
  obtain ⟨v', w', I', t', h1, h2, h3, h4⟩ := nU (ty := T3) (u := ρ y) hT hT2 hD2 hE (Nat.zero_lt_one) (hI.take_at hA) (hx ▸ hρ x) (Enc.byte.fl_length l) (by rw [e2]; exact ns) (Enc.byte.fl_cell m) hb hs
  rw [← Enc.fl_append] at h4
  exact ⟨_, v', w', I', _, _, gC h1, .inl rfl, h2, eC hA h3, h4, t', rfl, rfl⟩
end
section
variable {P : Program} {f : FuncId}
theorem ACalls.keeps {avs : List AV} {v : Value} (h : ACalls P f avs [] (Ret (.v v) [])) {I : Info} {A : List Chunk} {w : World} {vs : List Value} (hI : Inv I A w) (hv : RelL I w avs vs) :
    Calls P f vs.toArray w fun e w' => e = .returned v ∧ Below w.heap.size w w' := by
  obtain ⟨I2, hI2⟩ : ∃ I2 : Info, I2 = { I with ext := fun b => if b < w.heap.size then none else some 0 } := ⟨_, rfl⟩
  have X : Ext I w I2 w := by
    subst hI2;refine ⟨rfl, rfl, rfl, Nat.le_refl _, fun b hb => ⟨rfl, ?_⟩, fun _ _ _ => rfl, fun b n hn => ?_, fun _ _ h => h, fun _ _ h => h, fun _ _ h => h⟩
    · have : b < w.heap.size := Nat.lt_of_not_le fun hh => by rw [hI.fresh b hh] at hb; cases hb
      simp [this]
    · intro m hm
      simp only at hm
      split at hm
      · cases hm
      · rename_i hlt
        cases hm
        exact hn 0 (hI.fresh b (by omega))
  have hInv : Inv I2 [] w := by
    refine ⟨fun c hc => (by cases hc), by simp, fun b hb => ?_, ?_, fun g cs hg => (hI.glob g cs hg).mono X⟩
    · subst hI2; simp only; rw [if_neg (by omega)]
    · subst hI2; exact hI.ids
  refine (h [] I2 w vs hInv (hv.mono X)).mono fun e w' ⟨I', ae, A', E, hI', hre, hae, hA'⟩ => ?_
  subst hae
  cases e with
  | returned u =>
    have := bM hre
    subst this;refine ⟨rfl, E.os, E.tape, E.out, E.size, fun k hk => ?_⟩;exact (E.blk k (by subst hI2; simp only; rw [if_pos hk])).1
  | panicked c => exact hre.elim
  | outgrown => exact hre.elim
theorem pg {p : Nat → Bool} {I : Info} {A : List Chunk} {w : World} (hI : Inv I A w) (h : ∀ x : Nat, x ≤ 1114111 → ACalls P f [.v (.int .i32 (x : Int))] [] (Ret (.v (.bool (p x))) [])) : Go.Proofs.PredGrows P f #[] p w := fun W x hx hb => by
  have hI2 := (Inv.below hI hb).2
  have := (h x hx).keeps (vs := [.int .i32 (x : Int)]) hI2 (cy (.v _) di)
  exact this
theorem qX {I : Info} {A : List Chunk} {w w' : World} {l : List ByteArray} {g El : Nat} (hI : Inv I A w) (hb : Below w.heap.size w w') (h : w'.ownsRow w.heap.size El 1 (.slice (some ⟨g, 0, none⟩) l.length l.length) l.length (l.map Value.string)) :
    ∃ I', Ext I w I' w' ∧ Inv I' A w' ∧ Rel I' w' (slE Enc.str (l.map fun x => x.data.toList) none) (.slice (some ⟨g, 0, none⟩) l.length l.length) := by
  obtain ⟨h1, h2⟩ := h
  rcases h2 with ⟨h2, _⟩ | ⟨g', cap, cur, hv, hg, hh, hn, hmax, hcs, htk⟩
  · cases h2
  · cases hv
    obtain ⟨t, X, hI'⟩ := hI.new_tok (n := l.length) (c := l.length) (arr := cur.toList) hb hg (by simpa using hh) (.inl rfl) (by simpa using hcs) (Nat.le_refl _);refine ⟨_, X, hI'.sub (List.sublist_cons_self ..), ?_⟩
    have hfl : (Enc.str.fl (l.map fun x => x.data.toList)) = l.map fun x => S x.data.toList := by
      clear htk hcs hh X hI' h1 hn hmax
      induction l with
      | nil => rfl
      | cons c s ih => rw [List.map_cons, Enc.fl_cons, ih]; rfl
    have hfl2 : (Enc.str.fl (l.map fun x => x.data.toList)).length = l.length := by rw [hfl]; simp
    unfold slE
    refine .sl 1 _ none g 0 _ _ (fun j => (l.map Value.string).getD j undef) (by decide) (by rw [hfl2, Nat.mul_one]) (Nat.le_refl _) (fun m hm => ?_) (fun j hj => ?_) (fun j hj => ?_) (fun _ h => by cases h)
    · simp only [Info.putTok, if_true, Option.some.injEq] at hm
      rw [hfl2]; omega
    · rw [hfl2] at hj
      rw [Nat.zero_add]
      have : cur.toList[j]? = (l.map Value.string)[j]? := by
        rw [← htk, List.getElem?_take, if_pos (by omega)]
      simp only [World.cell?, hh, Option.isSome_none, Bool.false_eq_true, if_false]
      rw [← Array.getElem?_toList, this]
      simp [List.getD, hj]
    · have hj' : j < l.length := by rw [hfl2] at hj; exact hj
      have h3 : (Enc.str.fl (l.map fun x => x.data.toList))[j] = S (l[j].data.toList) := by simp only [hfl, List.getElem_map]
      rw [h3]
      have h4 : (l.map Value.string).getD j undef = .string l[j] := by simp [List.getD, hj']
      rw [h4]
      exact rel_string _ _ _
end
section
variable {P : Program}
theorem pi {I : Info} {A : List Chunk} {w w' : World} {l : List UInt8} {El : Nat} {v : Value} (hI : Inv I A w) (hb : Below w.heap.size w w') (h : w'.ownsRow w.heap.size El 1 v l.length ((Go.Lib.numsL l).map (Value.int .u8))) :
    ∃ I', Ext I w I' w' ∧ Inv I' A w' ∧ Rel I' w' (slE Enc.byte l none) v := by
  obtain ⟨h1, h2⟩ := h
  rcases h2 with ⟨rfl, h2⟩ | ⟨g, cap, cur, hv, hg, hh, hn, hmax, hcs, htk⟩
  · have : l = [] := List.eq_nil_of_length_eq_zero h2
    subst this;obtain ⟨X, hI'⟩ := Inv.below hI hb;exact ⟨I, X, hI', .slz _ _ _⟩
  · subst hv
    obtain ⟨t, X, hI'⟩ := hI.new_tok (n := l.length) (c := cap) (arr := cur.toList) hb hg (by simpa using hh) (.inl rfl) (by simpa using hcs) hn;refine ⟨_, X, hI'.sub (List.sublist_cons_self ..), ?_⟩
    have hfl : (Enc.byte.fl l).length = l.length := by rw [ef]; simp
    unfold slE
    refine .sl 1 _ none g 0 _ _ (fun j => ((Go.Lib.numsL l).map (Value.int .u8)).getD j undef) (by decide) (by rw [hfl, Nat.mul_one]) hn (fun m hm => ?_) (fun j hj => ?_) (fun j hj => ?_) (fun _ h => by cases h)
    · simp only [Info.putTok, if_true, Option.some.injEq] at hm
      rw [hfl]; omega
    · rw [hfl] at hj
      rw [Nat.zero_add]
      have : cur.toList[j]? = ((Go.Lib.numsL l).map (Value.int .u8))[j]? := by
        rw [← htk, List.getElem?_take, if_pos (by omega)]
      simp only [World.cell?, hh, Option.isSome_none, Bool.false_eq_true, if_false]
      rw [← Array.getElem?_toList, this]
      simp [List.getD, hj, Go.Lib.numsL_length]
    · have hj' : j < l.length := by rw [hfl] at hj; exact hj
      have h3 : (Enc.byte.fl l)[j] = u8 l[j] := by simp only [ef, List.getElem_map]
      rw [h3]
      have h4 : ((Go.Lib.numsL l).map (Value.int .u8)).getD j undef = .int .u8 (l[j].toNat : Int) := by simp [List.getD, hj', Go.Lib.numsL]
      rw [h4]
      exact .v _
theorem oc {I : Info} {A : List Chunk} {w : World} {El : Nat} (hI : Inv I A w) :
    ∃ I' t, Ext I w I' (w.alloc (.cells #[] El)) ∧ Inv I' (.tokw t :: A) (w.alloc (.cells #[] El)) ∧ Rel I' (w.alloc (.cells #[] El)) (slE Enc.byte [] (some t)) (.slice (some ⟨w.heap.size, 0, none⟩) 0 0) := by
  obtain ⟨t, X, hI'⟩ := hI.new_tok (w' := w.alloc (.cells #[] El)) (n := 0) (c := 0) (arr := []) (g := w.heap.size) (E := El) (fz := (0, 0)) ((Below.refl _ _).alloc (Nat.le_refl _) _) (Nat.le_refl _) (bJ _ _) (.inl rfl) rfl (Nat.le_refl _);refine ⟨_, t, X, hI'.tokw_of (b := w.heap.size) (n := 0) (c := 0) (by simp [Info.putTok]), ?_⟩
  unfold slE
  exact .sl 1 _ (some t) _ 0 0 0 (fun _ => undef) (by decide) (by simp [Enc.fl]) (Nat.le_refl _) (fun m hm => by simp only [Info.putTok, if_true, Option.some.injEq] at hm; simp [Enc.fl]) (fun j hj => by simp [Enc.fl] at hj) (fun j hj => by simp [Enc.fl] at hj) (fun t' e => by cases e; exact ⟨by simp [Info.putTok, Enc.fl], rfl⟩)
theorem join_nil (ls : List (List UInt8)) : Go.Lib.join ls [] = ls.flatten := by
  unfold Go.Lib.join List.intercalate
  induction ls with
  | nil => rfl
  | cons a r ih =>
    cases r with
    | nil => simp [List.intersperse]
    | cons b r => simp only [List.intersperse_cons_cons, List.flatten_cons, List.nil_append] at ih ⊢; rw [ih]
theorem re (ls : List (List UInt8)) : Go.Lib.lens ls = ls.flatten.length := by
  simp [Go.Lib.lens, List.length_flatten]
theorem ra {ls : List (List UInt8)} (h : jt ls = true) : (ls = [] ∨ ls.flatten ≠ []) ∧ ls.flatten.length ≤ 1000000000 ∧ ls.length ≤ 1000000000 := by
  simp only [jt, Bool.and_eq_true, decide_eq_true_eq, Bool.or_eq_true, Bool.not_eq_true', List.isEmpty_iff] at h
  refine ⟨h.1.1.imp id fun h e => ?_, h.1.2, h.2⟩
  rw [e] at h; cases h
variable {e : Env} {d : Option Nat} {T : TypeId} {pos : String} {after : Array Edge} {g : Option (Nat × Bool)} {x y : Operand} {A : List Chunk}
theorem mw {l m u : List UInt8} {t : Nat} {El T2 T3 bytes : Nat} {D2 : TypeDesc} (i : Nat) (hT : P.underlying T = some (.slice El)) (hT2 : P.underlying T2 = some D2) (hD2 : eF D2 = false) (hE : cb P El = some (1, bytes)) (hb : Nat.ble bytes 1000 = true)
    (hx : opv e x = slE Enc.byte l (some t)) (hy : opv e y = S m) (hA : A[i]? = some (.tokw t)) (hg : bw (l.length + m.length) = true) (he : l ++ m = u) :
    OpX P ⟨d, .call ⟨.builtin .append, #[x, y], #[T, T2]⟩, T3, pos, after, g⟩ e A (fun av A' => ∃ t', av = slE Enc.byte u (some t') ∧ A' = A.set i (.tokw t')) := by
  subst he
  have h1 := ju hg
  have h2 := ag hb
  have h3 : (l.length + m.length) * bytes ≤ 100000000000 * 1000 := Nat.mul_le_mul h1 h2
  exact kS i hT hT2 hD2 hE hx hy hA (by omega) (by omega)
end
end Go.Av
namespace Go.Av
open Go.RowKit Go.Pv
section
variable {P : Program} {I : Info} {w : World} {e : Env} {d : Option Nat} {T : TypeId} {pos : String} {after : Array Edge} {g : Option (Nat × Bool)} {x y : Operand} {A : List Chunk}
theorem kL {p q : Nat → Option (Nat × Nat)} : ∀ (parts : List (Nat × Value)) (cs : Array Value), (∀ r ∈ parts, p r.1 = q r.1) → Instr.fill p cs parts = Instr.fill q cs parts
  | [], _, _ => rfl
  | (i, v) :: rest, cs, h => by
    have h0 := h (i, v) (List.mem_cons_self ..)
    simp only at h0
    have ih := fun cs => kL (p := p) (q := q) rest cs (fun r hr => h r (List.mem_cons_of_mem _ hr))
    simp only [Instr.fill, h0]
    cases q i with
    | none => rfl
    | some r => simp only [ih]
theorem nk {El bytes k n : Nat} {parts : Array (Nat × Operand)} {zs : List Value} {cs : List AV} {T2 : TypeId} {ρ : Operand → Value} (hT : P.underlying T = some (.slice El)) (hE : cb P El = some (k, bytes)) (hz : zeroCells P El = some zs) (hn : Nat.ble (n * k) 16777216 = true)
    (hok : nu e parts.toList = true) (hi : (parts.toList.all fun p => Nat.blt p.1 n) = true) (hf : ma ((List.range n).map fun i => (i * k, k)) ((gZ zs (n * k)).map AV.v) (parts.toList.map fun p => (p.1, opv e p.2)) = some cs) (hρ : ∀ x, Rel I w (opv e x) (ρ x)) :
    ∃ ys : List Value, (execOp ρ ⟨d, .buildSlice T n parts, T2, pos, after, g⟩).run P w = .ok (.value (.slice (some ⟨w.heap.size, 0, none⟩) n n)) (w.alloc (.cells ys.toArray El)) ∧ RelL I w cs ys := by
  obtain ⟨i, z, hin, hzi, hzs, hsz, hby⟩ := dM hE
  have hcz : bf P El = some k := by simp only [bf, hin, Option.map_some, hsz]
  have hzz : zs = z.cells.toList := by
    simp only [zeroCells, hin, Option.bind_some, hzi, Option.map_some, Option.some.injEq] at hz
    exact hz.symm
  have hti : (typeInfo El).run P w = .ok i w := by simp [typeInfo, program, hin, Sem.run]
  have hzv : (zeroValue El).run P w = .ok z w := by simp only [zeroValue, Sem.run_bind, hti, Result.andThen_ok, hzi, Sem.run_pure]
  obtain ⟨ys, hy, hyr⟩ := lQ (I := I) (w := w) ((List.range n).map fun i => (i * k, k)) (parts.toList.map fun p => (p.1, opv e p.2)) (parts.toList.map fun p => (p.1, ρ p.2)) _ _ cs (by simp) (fun j hj => by
    have hj' : j < parts.toList.length := by simpa using hj
    simp only [List.getElem_map, List.map_map, List.getD, List.getElem?_map, aw hj', Option.map_some, Option.getD_some, Function.comp]
    refine jj (hρ _) ?_
    have h := List.all_eq_true.1 hok _ (List.getElem_mem hj')
    cases hc : cc (opv e parts.toList[j].2) with
    | true => exact .inl rfl
    | false => rw [hc, Bool.false_or] at h; exact .inr (qC h)) (ia (gZ zs (n * k))) hf
  refine ⟨ys, ?_, hyr⟩
  have hpm : (parts.map fun (i, x) => (i, ρ x)).toList = parts.toList.map fun p => (p.1, ρ p.2) := by simp
  have hfill : Instr.fill (fun i => some (i * k, k)) (gZ zs (n * k)).toArray (parts.map fun (i, x) => (i, ρ x)).toList = some ys.toArray := by
    rw [hpm, ← hy]
    refine kL _ _ fun r hr => ?_
    obtain ⟨p, hp, rfl⟩ := List.mem_map.1 hr
    have hlt : p.1 < n := by
      have := List.all_eq_true.1 hi p hp
      exact ag this
    simp [hlt]
  have hle := ag hn
  have hz0 : (if n * k = 0 then (pure #[] : Sem (Array Value)) else do pure (← zeroValue El).cells).run P w = .ok (if n * k = 0 then #[] else z.cells) w := by
    split
    · rfl
    · simp only [Sem.run_bind, hzv, Result.andThen_ok, Sem.run_pure]
  have hrow : (Array.range (n * k)).map ((if n * k = 0 then #[] else z.cells)[· % (if n * k = 0 then #[] else z.cells).size]!) = (gZ zs (n * k)).toArray := by
    by_cases h0 : n * k = 0
    · simp [h0, gZ]
    · simp only [if_neg h0]
      have hk0 : 0 < z.cells.size := by
        rw [hzs]
        rcases Nat.eq_zero_or_pos k with h | h
        · rw [h, Nat.mul_zero] at h0; exact absurd rfl h0
        · exact h
      apply Array.ext'
      simp only [Array.toList_map, Array.toList_range, gZ, List.toList_toArray, hzz, Array.length_toList]
      refine List.map_congr_left fun j _ => ?_
      have hj : j % z.cells.size < z.cells.size := Nat.mod_lt _ hk0
      simp [List.getD, hj]
  simp only [execOp, Instr.buildSlice, Sem.run_bind, run_underlying hT, Result.andThen_ok, bh hcz, Sem.run_pure]
  rw [if_neg (by omega)]
  have hfill2 : Instr.fill (fun i => some (i * k, k)) (gZ zs (n * k)).toArray (parts.map fun x => (x.1, ρ x.2)).toList = some ys.toArray := hfill
  by_cases h0 : n * k = 0
  · rw [if_pos h0] at hrow
    rw [if_pos h0]
    simp only [Sem.run_bind, Sem.run_pure, Result.andThen_ok]
    rw [hrow]
    simp only [hfill2, newRow, Sem.run_bind, run_newObj_alloc, Result.andThen_ok, Sem.run_pure]
  · rw [if_neg h0] at hrow
    rw [if_neg h0]
    simp only [Sem.run_bind, hzv, Sem.run_pure, Result.andThen_ok]
    rw [hrow]
    simp only [hfill2, newRow, Sem.run_bind, run_newObj_alloc, Result.andThen_ok, Sem.run_pure]
theorem jW {α : Type} {E : Enc α} {l : List α} {El bytes n : Nat} {parts : Array (Nat × Operand)} {zs : List Value} {T2 : TypeId} (hT : P.underlying T = some (.slice El)) (hE : cb P El = some (E.k, bytes)) (hz : zeroCells P El = some zs) (hn : Nat.ble (n * E.k) 16777216 = true)
    (hok : nu e parts.toList = true) (hi : (parts.toList.all fun p => Nat.blt p.1 n) = true) (hl : l.length = n) (hf : ma ((List.range n).map fun i => (i * E.k, E.k)) ((gZ zs (n * E.k)).map AV.v) (parts.toList.map fun p => (p.1, opv e p.2)) = some (E.fl l)) :
    OpR P ⟨d, .buildSlice T n parts, T2, pos, after, g⟩ e A (slE E l none) A := fun F I w ρ hI hρ => by
  obtain ⟨ys, hrun, hrl⟩ := nk (d := d) (T2 := T2) (pos := pos) (after := after) (g := g) hT hE hz hn hok hi hf hρ
  have X := hI.new_still (.cells ys.toArray El)
  refine ⟨_, .slice (some ⟨w.heap.size, 0, none⟩) n n, _, _, hrun, .inl rfl, X, hI.alloc_still _, ?_⟩
  unfold slE
  refine .sl E.k (E.fl l) none _ 0 _ _ (fun j => ys.getD j undef) E.pos (by rw [E.fl_length, hl]) (Nat.le_refl _) ?_ ?_ (hrl.mono X).2 (fun t h => by cases h)
  · intro m hm; simp [Info.still] at hm
  · intro j hj
    have hj' : j < ys.length := by rw [hrl.1]; exact hj
    rw [Nat.zero_add]
    simp only [World.cell?, bJ]
    simp only [Option.isSome_none, Bool.false_eq_true, if_false, List.getElem?_toArray, List.getD, aw hj', Option.getD_some]
end
theorem kB {P : Program} {o : Oper} {e : Env} {A A' : List Chunk} {av v : AV} (t : Nat) (hw : Wv (ev e t) v) (h : OpR P o ((t, v) :: e) A av A') : OpR P o e A av A' := fun F I w ρ hI hρ => h F I w ρ hI (fun x => by
  cases x with
  | tmp u =>
    show Rel I w (match Nat.beq t u with | true => v | false => ev e u) _
    cases hb : Nat.beq t u with
    | true =>
      have : t = u := Nat.eq_of_beq_eq_true hb
      subst this;exact hw.rel (hρ (.tmp t))
    | false => exact hρ (.tmp u)
  | const c => exact hρ (.const c)
  | global g => exact hρ (.global g)
  | func f => exact hρ (.func f))
theorem nn {P : Program} {f : FuncId} {vs1 bs : List AV} {A : List Chunk} {R : AE → List Chunk → Prop} (h : WvL vs1 bs) (g : ACalls P f bs A R) : ACalls P f vs1 A R := fun F I w vs hI hv => g F I w vs hI (h.rel hv)
end Go.Av
namespace Go.Av
open Go.RowKit
theorem tabIs_of {P : Program} {I : Info} {A : List Chunk} {w : World} (hI : Inv I A w) {name : String} {g : Nat} {k : IntKind} {zs : List Int} (hn : P.globalNamed name = some g) (hG : G g = some [.tb (zs.map fun z => Value.int k z)]) : Go.Lib.TabIs P w name k zs := by
  have h : Rel I w (.tb _) _ := hI.glob g _ hG
  cases h with
  | tb _ _ E fz hb hst =>
    unfold Go.Lib.TabIs World.var?
    rw [hn]
    simp [hb]
theorem rel_tab {P : Program} {W : World} {name : String} {g : Nat} {k : IntKind} {zs : List Int} (hn : P.globalNamed name = some g) (h : Go.Lib.TabIs P W name k zs) : Rel (Info.start W) W (gv [.tb (zs.map fun z => Value.int k z)]) (.pointer (some ⟨g, 0, none⟩)) := by
  unfold Go.Lib.TabIs World.var? at h
  rw [hn] at h
  simp only [Option.bind_some] at h
  split at h
  · rename_i cs E fz hb
    cases h
    have hlt := (Array.getElem?_eq_some_iff.1 hb).1
    refine .tb _ g E fz hb ?_
    simp only [Info.start]
    rw [if_pos hlt]
  · cases h
end Go.Av
namespace Go.Proofs.YtdaafnaokdigbaaGreatDoor
open Go.RowKit Go.Av Go.Pv
theorem mu (s p : List UInt8) : ACalls Tryz.prog 139 [S s, S p] [] (Ret (.tup [S (Go.Lib.trimPrefix s p), B (Go.Lib.hasPrefix s p)]) []) := by
 refine eb (rs := [.string ⟨(Go.Lib.trimPrefix s p).toArray⟩, .bool (Go.Lib.hasPrefix s p)]) rfl fun I A w vs hI hv => ?_
 obtain ⟨v1, r1, rfl, h1, hv⟩ := hv.out_cons;obtain ⟨v2, r2, rfl, h2, hv⟩ := hv.out_cons
 rw [hv.out_nil, hX h1, hX h2]
 refine (Tryz.strings_CutPrefix ⟨s.toArray⟩ ⟨p.toArray⟩ w).mono fun e w' ⟨he, hw⟩ => ⟨by simpa using he, hw ▸ Below.refl _ _⟩
theorem iw (s sub : List UInt8) (hs : s.length < 4294967281) : ACalls Tryz.prog 43 [S s, S sub] [] (Ret (B (Go.Lib.contains s sub)) []) := by
 refine cg fun I A w vs hI hv => ?_
 obtain ⟨v1, r1, rfl, h1, hv⟩ := hv.out_cons;obtain ⟨v2, r2, rfl, h2, hv⟩ := hv.out_cons
 rw [hv.out_nil, hX h1, hX h2]
 obtain ⟨m, hm⟩ := ii hI (g := 0) (k := .i64) (r := []) rfl
 refine (Tryz.strings_Contains ⟨s.toArray⟩ ⟨sub.toArray⟩ m w (by simpa [ByteArray.size] using hs) hm).mono fun e w' ⟨he, hw⟩ => ⟨by simpa using he, hw ▸ Below.refl _ _⟩
theorem mJ (s : List UInt8) (c : UInt8) (hc : c.toNat < 128) (hs : s.length < 4294967281) : ACalls Tryz.prog 42 [S s, S [c]] [] (Ret (S (Go.Lib.trimB s c)) []) := by
 refine cg fun I A w vs hI hv => ?_
 obtain ⟨v1, r1, rfl, h1, hv⟩ := hv.out_cons;obtain ⟨v2, r2, rfl, h2, hv⟩ := hv.out_cons
 rw [hv.out_nil, hX h1, hX h2]
 refine (Tryz.strings_Trim_one ⟨s.toArray⟩ c hc w (by simp [ByteArray.size]; omega)).mono fun e w' ⟨he, hw⟩ => ⟨by simpa using he, ?_⟩
 rcases hw with rfl | rfl
 ·exact Below.refl _ _
 ·exact (Below.refl _ _).drew
theorem mt (s p : List UInt8) (hs : s.length < 4294967281) : ACalls Tryz.prog 140 [S s, S p] [] (Ret (.tup [S (Go.Lib.trimSuffix s p), B (Go.Lib.hasSuffix s p)]) []) := by
 refine eb (rs := [.string ⟨(Go.Lib.trimSuffix s p).toArray⟩, .bool (Go.Lib.hasSuffix s p)]) rfl fun I A w vs hI hv => ?_
 obtain ⟨v1, r1, rfl, h1, hv⟩ := hv.out_cons;obtain ⟨v2, r2, rfl, h2, hv⟩ := hv.out_cons
 rw [hv.out_nil, hX h1, hX h2]
 refine (Tryz.strings_CutSuffix ⟨s.toArray⟩ ⟨p.toArray⟩ w (by simp [ByteArray.size]; omega)).mono fun e w' ⟨he, hw⟩ => ⟨by simpa using he, hw ▸ Below.refl _ _⟩
theorem lk (g : FuncId) (p : Nat → Bool) (s : List UInt8) (eg : ∀ args w, (callFunc g args).run Tryz.prog w = .ok (.enter g args) w) (hp : ∀ x : Nat, x ≤ 1114111 → ACalls Tryz.prog g [.v (.int .i32 (x : Int))] [] (Ret (.v (.bool (p x))) [])) (hs : s.length < 4294967281) :
  ACalls Tryz.prog 99 [S s, .v (.func (.func g) #[] #[])] [] (Ret (slE Enc.str (qI p s) none) []) := fun F I w vs hI hv => by
 obtain ⟨v1, r1, rfl, h1, hv⟩ := hv.out_cons;obtain ⟨v2, r2, rfl, h2, hv⟩ := hv.out_cons
 rw [hv.out_nil, hX h1, bM h2]
 refine (Tryz.strings_FieldsFunc_grows g #[] eg p ⟨s.toArray⟩ w (by simp [ByteArray.size]; omega) (pg hI hp)).mono fun e w' ⟨B, he, hB, how, hb⟩ => ?_
 subst he;obtain ⟨I', X, hI', hr⟩ := qX hI hb how;exact ⟨I', .ret _, [], X, hI', hr, rfl, rfl⟩
theorem ja (a b : List UInt8) (t u : Option Nat) : ACalls Tryz.prog 36 [slE Enc.byte a t, slE Enc.byte b u] [] (Ret (B (decide (a = b))) []) := by
 refine cg fun I A w vs hI hv => ?_
 obtain ⟨v1, r1, rfl, h1, hv⟩ := hv.out_cons;obtain ⟨v2, r2, rfl, h2, hv⟩ := hv.out_cons;obtain rfl := hv.out_nil;obtain ⟨a1, c1, rfl, hc1, hb1, _⟩ := ci h1;obtain ⟨a2, c2, rfl, hc2, hb2, _⟩ := ci h2
 refine (Tryz.bytes_Equal_all a1 a2 a.length c1 b.length c2 _ _ w (Go.Lib.numsL_length _) (Go.Lib.numsL_length _) hb1 hb2).mono fun e w' ⟨he, hw⟩ => ⟨?_, hw ▸ Below.refl _ _⟩
 rw [he, Go.Lib.bytesOf_numsL, Go.Lib.bytesOf_numsL]
 congr 2
 rw [Bool.eq_iff_iff]
 simp
theorem eB (a b : List UInt8) (t u : Option Nat) : ACalls Tryz.prog 50 [slE Enc.byte a t, slE Enc.byte b u] [] (Ret (B (Go.Lib.hasPrefix a b)) []) := by
 refine cg fun I A w vs hI hv => ?_
 obtain ⟨v1, r1, rfl, h1, hv⟩ := hv.out_cons;obtain ⟨v2, r2, rfl, h2, hv⟩ := hv.out_cons;obtain rfl := hv.out_nil;obtain ⟨a1, c1, rfl, hc1, hb1, _⟩ := ci h1;obtain ⟨a2, c2, rfl, hc2, hb2, _⟩ := ci h2
 refine (Tryz.bytes_HasPrefix_all a1 a2 a.length c1 b.length c2 _ _ w (Go.Lib.numsL_length _) (Go.Lib.numsL_length _) hc1 hb1 hb2).mono fun e w' ⟨he, hw⟩ => ⟨?_, hw ▸ Below.refl _ _⟩
 rw [he, Go.Lib.bytesOf_numsL, Go.Lib.bytesOf_numsL]
theorem iZ (a b : List UInt8) (t u : Option Nat) (hs : a.length < 4294967281) (h2 : 2 ≤ b.length) (hb : b.length < 4294967281) : ACalls Tryz.prog 34 [slE Enc.byte a t, slE Enc.byte b u] [] (Ret (i64 (Go.Lib.index a b)) []) := by
 refine cg fun I A w vs hI hv => ?_
 obtain ⟨v1, r1, rfl, h1, hv⟩ := hv.out_cons;obtain ⟨v2, r2, rfl, h2', hv⟩ := hv.out_cons;obtain rfl := hv.out_nil;obtain ⟨a1, c1, rfl, hc1, hb1, hx1⟩ := ci h1;obtain ⟨a2, c2, rfl, hc2, hb2, hx2⟩ := ci h2'
 by_cases hlt : a.length < b.length
 ·refine (Tryz.bytes_Index_longer a1 a2 a.length c1 b.length c2 w h2 hlt (by omega)).mono fun e w' ⟨he, hw⟩ => ⟨?_, hw ▸ Below.refl _ _⟩
  rw [he, Go.Lib.index_long (Nat.le_of_lt hlt) (fun e => by rw [e] at hlt; exact Nat.lt_irrefl _ hlt)]
 ·obtain ⟨m, hm⟩ := ii hI (g := 0) (k := .i64) (r := []) rfl;obtain ⟨b1, o1, rfl, g1⟩ := hx1 (by intro e; rw [e] at hlt; simp at hlt; rw [hlt] at h2; simp at h2);obtain ⟨b2, o2, rfl, g2⟩ := hx2 (by intro e; rw [e] at h2; simp at h2)
  refine (Tryz.bytes_Index_at ⟨b1, o1, none⟩ ⟨b2, o2, none⟩ a.length c1 b.length c2 _ _ m w (Go.Lib.numsL_length _) (Go.Lib.numsL_length _) (Go.Lib.numsL_range _) (Go.Lib.numsL_range _) (fun i hi => by rw [bL]; exact g1 i hi) (fun i hi => by rw [bL]; exact g2 i hi) hc1 hs (by omega) hm).mono fun e w' ⟨he, q, hw⟩ => ⟨?_, hw ▸ Below.drewN _ _⟩
  rw [he, Go.Lib.bytesOf_numsL, Go.Lib.bytesOf_numsL]
theorem jS (a b : List UInt8) (t u : Option Nat) (hs : a.length < 4294967281) (h2 : 2 ≤ b.length) (hb : b.length < 4294967281) : ACalls Tryz.prog 30 [slE Enc.byte a t, slE Enc.byte b u] [] (Ret (B (Go.Lib.contains a b)) []) := by
 refine cg fun I A w vs hI hv => ?_
 obtain ⟨v1, r1, rfl, h1, hv⟩ := hv.out_cons;obtain ⟨v2, r2, rfl, h2', hv⟩ := hv.out_cons;obtain rfl := hv.out_nil;obtain ⟨a1, c1, rfl, hc1, hb1, hx1⟩ := ci h1;obtain ⟨a2, c2, rfl, hc2, hb2, hx2⟩ := ci h2'
 by_cases hlt : a.length < b.length
 ·refine (Tryz.bytes_Contains_longer a1 a2 a.length c1 b.length c2 w h2 hlt (by omega)).mono fun e w' ⟨he, hw⟩ => ⟨?_, hw ▸ Below.refl _ _⟩
  unfold Go.Lib.contains
  rw [he, Go.Lib.index_long (Nat.le_of_lt hlt) (fun e => by rw [e] at hlt; exact Nat.lt_irrefl _ hlt)]; rfl
 ·obtain ⟨m, hm⟩ := ii hI (g := 0) (k := .i64) (r := []) rfl;obtain ⟨b1, o1, rfl, g1⟩ := hx1 (by intro e; rw [e] at hlt; simp at hlt; rw [hlt] at h2; simp at h2);obtain ⟨b2, o2, rfl, g2⟩ := hx2 (by intro e; rw [e] at h2; simp at h2)
  refine (Tryz.bytes_Contains_at ⟨b1, o1, none⟩ ⟨b2, o2, none⟩ a.length c1 b.length c2 _ _ m w (Go.Lib.numsL_length _) (Go.Lib.numsL_length _) (Go.Lib.numsL_range _) (Go.Lib.numsL_range _) (fun i hi => by rw [bL]; exact g1 i hi) (fun i hi => by rw [bL]; exact g2 i hi) hc1 hs (by omega) hm).mono fun e w' ⟨he, q, hw⟩ => ⟨?_, hw ▸ Below.drewN _ _⟩
  rw [he, Go.Lib.bytesOf_numsL, Go.Lib.bytesOf_numsL]
theorem jG (a b : List UInt8) (t u : Option Nat) (hb : 1 ≤ b.length) : ACalls Tryz.prog 33 [slE Enc.byte a t, slE Enc.byte b u] [] (Ret (.tup [slE Enc.byte (Go.Lib.trimPrefix a b) none, B (Go.Lib.hasPrefix a b)]) []) := fun F I w vs hI hv => by
 obtain ⟨v1, r1, rfl, h1, hv⟩ := hv.out_cons;obtain ⟨v2, r2, rfl, h2, hv⟩ := hv.out_cons;obtain rfl := hv.out_nil;obtain ⟨a1, c1, rfl, hc1, hb1, _⟩ := ci h1;obtain ⟨a2, c2, rfl, hc2, hb2, _⟩ := ci h2
 refine (Tryz.bytes_CutPrefix_all a1 a2 a.length c1 b.length c2 _ _ w (Go.Lib.numsL_length _) (Go.Lib.numsL_length _) hc1 hb1 hb2).mono fun e w' ⟨he, hw⟩ => ?_
 subst he; subst hw
 have hr := mj h1 (m := b) (by intro e; rw [e] at hb; simp at hb)
 rw [Go.Lib.bytesOf_numsL, Go.Lib.bytesOf_numsL]
 exact ⟨I, .ret _, [], bx _ _, hI, .tup _ [_, _] rfl (cy hr (cy (.v _) di)).2, rfl, rfl⟩
theorem lj (a : List UInt8) (t : Option Nat) (hs : a.length < 4294967281) : ACalls Tryz.prog 78 [slE Enc.byte a t] [] (Ret (slE Enc.byte a none) []) := fun F I w vs hI hv => by
 obtain ⟨v1, r1, rfl, h1, hv⟩ := hv.out_cons;obtain rfl := hv.out_nil;obtain ⟨a1, c1, rfl, hc1, hb1, hx1⟩ := ci h1
 cases a1 with
 | none =>
  have : a = [] := by
   by_cases hne : a = []
   ·exact hne
   ·obtain ⟨_, _, h, _⟩ := hx1 hne; cases h
  subst this
  refine (Tryz.bytes_Clone_nil 0 c1 w).mono fun e w' ⟨he, hw⟩ => ?_
  subst he; subst hw
  exact ⟨I, .ret _, [], bx _ _, hI, .slz _ _ _, rfl, rfl⟩
 | some ad =>
  refine (Tryz.bytes_Clone_at ad a.length c1 (Go.Lib.numsL a) w (Go.Lib.numsL_length _) (by omega) (fun i hi => ?_)).mono fun e w' ⟨v', he, how, _, hb⟩ => ?_
  ·obtain ⟨b, o, h, hc⟩ := hx1 (by intro e; rw [e] at hi; simp at hi)
   cases h
   rw [bL]; exact hc i hi
  ·subst he;obtain ⟨I', X, hI', hr⟩ := pi hI hb how;exact ⟨I', .ret _, [], X, hI', hr, rfl, rfl⟩
theorem li (ls : List (List UInt8)) (t : Option Nat) (h : jt ls = true) : ACalls Tryz.prog 70 [slE (Enc.sl Enc.byte) ls t, ko] [] (fun e A' => ∃ t', e = .ret (slE Enc.byte ls.flatten (some t')) ∧ A' = [.tokw t']) := fun F I w vs hI hv => by
 obtain ⟨v1, r1, rfl, h1, hv⟩ := hv.out_cons;obtain ⟨v2, r2, rfl, h2, hv⟩ := hv.out_cons;obtain rfl := hv.out_nil;obtain ⟨a, c, rfl, hc, hp⟩ := qU h1;obtain rfl := bM h2;obtain ⟨hne, hl1, hl2⟩ := ra h
 match ls, hne, hl1, hl2, hc, hp with
 | [], _, _, _, _, _ =>
  refine (Tryz.bytes_Join_none a c _ w).mono fun e w' ⟨he, hw⟩ => ?_
  subst he; subst hw
  obtain ⟨I', t', X, hI', hr⟩ := oc (El := 5) hI;exact ⟨I', .ret _, [.tokw t'], X, hI', hr, ⟨t', rfl, rfl⟩⟩
 | [l0], hne, hl1, _, _, hp =>
  obtain ⟨b, o, xs, rfl, hP⟩ := hp (by simp)
  have hne0 : l0 ≠ [] := by
   rcases hne with h | h
   ·cases h
   ·simpa using h
  obtain ⟨p0, c0, l, hl, hcell, hn, hby⟩ := hP.get 0 (by simp)
  simp at hl
  subst hl
  cases p0 with
  | none => exact absurd (hn rfl) hne0
  | some ad =>
   refine (Tryz.bytes_Join_one b o c ad c0 l0 _ w (by simpa [bL] using hcell) (hby ad rfl) (List.length_pos_iff.2 hne0) (by simp at hl1; omega)).mono fun e w' ⟨v', he, hf, hb⟩ => ?_
   subst he;obtain ⟨I', t', X, hI', hr⟩ := lF hI hb hf hne0;exact ⟨I', .ret _, [.tokw t'], X, hI', hr, ⟨t', by simp, rfl⟩⟩
 | l0 :: l1 :: r, hne, hl1, hl2, hc, hp =>
  obtain ⟨b, o, xs, rfl, hP⟩ := hp (by simp)
  have hne0 : (l0 :: l1 :: r).flatten ≠ [] := by
   rcases hne with h | h
   ·cases h
   ·exact h
  refine (Tryz.bytes_Join_many b o (l0 :: l1 :: r).length c xs (l0 :: l1 :: r) (.slice none 0 0) [] w rfl (by simp) hP hc ⟨none, 0, rfl, fun _ => rfl, fun a h => by cases h⟩ (by omega) (by rw [re]; simp only [List.length_nil, Nat.zero_mul]; omega)).mono fun e w' ⟨v', he, hf, hb⟩ => ?_
  subst he
  rw [join_nil] at hf
  obtain ⟨I', t', X, hI', hr⟩ := lF hI hb hf hne0;exact ⟨I', .ret _, [.tokw t'], X, hI', hr, ⟨t', rfl, rfl⟩⟩
theorem nZ (n : Int) (h : -9223372036854775808 ≤ n ∧ n ≤ 9223372036854775807) : ACalls Tryz.prog 27 [i64 n] [] (Ret (S (Go.Lib.itoa n)) []) := by
 refine cg fun I A w vs hI hv => ?_
 obtain ⟨v1, r1, rfl, h1, hv⟩ := hv.out_cons
 rw [hv.out_nil, bM h1]
 have ht : Go.Lib.TabIs Tryz.prog w "internal/strconv.uint64pow10" .u64 Go.Lib.pow10Tab := tabIs_of hI (g := 1) (by kernel_rfl) (by simp [G, Go.Lib.pow10Tab])
 refine (Tryz.strconv_Itoa n h.1 h.2 w ht).mono fun e w' ⟨he, k, os, hw⟩ => ⟨by simpa using he, ?_⟩
 rw [hw]; exact Go.Lib.below_grow _ w (Nat.le_refl _) k os
end Go.Proofs.YtdaafnaokdigbaaGreatDoor
namespace Go.Pv
def kd (F : Nat) (a1 : UInt8) (a2 : List UInt8) : Option ((List UInt8)) :=
gt (((decide (a1 = 32)) || (decide (a1 = 9))) && (decide (0 < (a2.length : Int)))) (cE 0 a2.length) <|
lt (at_ a2 0) fun x9 =>
bif ((((decide (a1 = 32)) || (decide (a1 = 9))) && (decide (0 < (a2.length : Int)))) && (!decide (x9 = 10))) || (((decide (32 < (a1.toNat : Int))) && (decide ((a1.toNat : Int) < 127))) && (!decide (a1 = 61))) then
  some ([a1] : List UInt8)
else
  grd (cE ((Go.Av.shr8 a1 4).toNat : Int) ([48, 49, 50, 51, 52, 53, 54, 55, 56, 57, 65, 66, 67, 68, 69, 70] : List UInt8).length) <|
  lt (at_ ([48, 49, 50, 51, 52, 53, 54, 55, 56, 57, 65, 66, 67, 68, 69, 70] : List UInt8) ((Go.Av.shr8 a1 4).toNat : Int)) fun x16 =>
  grd (cE ((a1 &&& 15).toNat : Int) ([48, 49, 50, 51, 52, 53, 54, 55, 56, 57, 65, 66, 67, 68, 69, 70] : List UInt8).length) <|
  lt (at_ ([48, 49, 50, 51, 52, 53, 54, 55, 56, 57, 65, 66, 67, 68, 69, 70] : List UInt8) ((a1 &&& 15).toNat : Int)) fun x19 =>
  some ([61, x16, x19] : List UInt8)
def fH (y6 : UInt8) : Option (UInt8 × Bool) :=
lt (Go.Lib.indexByte ([48, 49, 50, 51, 52, 53, 54, 55, 56, 57, 65, 66, 67, 68, 69, 70] : List UInt8) y6) fun x8 =>
some (Go.Av.toB (max x8 0), decide (0 ≤ x8))
def jY (F : Nat) (a1 : UInt8) : Option (UInt8 × Bool) :=
bif (decide (97 ≤ (a1.toNat : Int))) && (decide ((a1.toNat : Int) ≤ 102)) then
  fH (a1 - 32)
else
  fH a1
def fR (y62 : List UInt8) : Option ((List UInt8) × Int) :=
some (y62, 0)
def dm (y6 : List UInt8) (rec9 : ((List UInt8) × (List UInt8)) → Option ((List UInt8) × Int)) (y55 : List UInt8) (y57 : Int) : Option ((List UInt8) × Int) :=
grd (fP y57 y6.length) <|
lt (hZ y6 y57) fun x60 =>
rec9 (x60, y55)
def ir (F : Nat) (rec9 : ((List UInt8) × (List UInt8)) → Option ((List UInt8) × Int)) (y6 : List UInt8) (y7 : List UInt8) : Option ((List UInt8) × Int) :=
bif decide (0 < (y6.length : Int)) then
  grd (cE 0 y6.length) <|
  lt (at_ y6 0) fun x13 =>
  lt (Go.Lib.hasPrefix y6 ([13, 10] : List UInt8)) fun x16 =>
  bif x16 then
    grd (bw (y7.length + ([10] : List UInt8).length)) <|
    lt (y7 ++ ([10] : List UInt8)) fun x21 =>
    dm y6 rec9 x21 2
  else
    lt (Go.Lib.hasPrefix y6 ([61, 13, 10] : List UInt8)) fun x24 =>
    bif x24 then
      dm y6 rec9 y7 3
    else
      bif (decide (x13 = 61)) && (decide (2 < (y6.length : Int))) then
        grd (cE 1 y6.length) <|
        lt (at_ y6 1) fun x30 =>
        jX (jY F x30) fun x32 x33 =>
        grd (cE 2 y6.length) <|
        lt (at_ y6 2) fun x36 =>
        jX (jY F x36) fun x38 x39 =>
        bif (!x33) || (!x39) then
          some ([], 2)
        else
          grd (bw (y7.length + ([(Go.Av.shl8 x32 4) ||| x38] : List UInt8).length)) <|
          lt (y7 ++ ([(Go.Av.shl8 x32 4) ||| x38] : List UInt8)) fun x45 =>
          dm y6 rec9 x45 3
      else
        bif (!decide (x13 = 61)) && (((decide (32 ≤ (x13.toNat : Int))) && (decide ((x13.toNat : Int) < 127))) || (decide (x13 = 9))) then
          grd (bw (y7.length + ([x13] : List UInt8).length)) <|
          lt (y7 ++ ([x13] : List UInt8)) fun x53 =>
          dm y6 rec9 x53 1
        else
          some ([], 2)
else
  fR y7
def eO (F : Nat) (n : Nat) : ((List UInt8) × (List UInt8)) → Option ((List UInt8) × Int) :=
  loop (fun rec x => ir F rec x.1 x.2) n
def kw (F : Nat) (a1 : List UInt8) : Option ((List UInt8) × Int) :=
eO F F (a1, [])
def ga (a5 : List UInt8) (y15 : List UInt8) (y17 : Int) : Option ((List UInt8) × Int) :=
grd (bw (y15.length + a5.length)) <|
lt (y15 ++ a5) fun x21 =>
grd (okI (y17 + (a5.length : Int))) <|
some (x21, y17 + (a5.length : Int))
def lR (F : Nat) (a2 : List UInt8) (a4 : Int) (a5 : List UInt8) : Option ((List UInt8) × Int) :=
grd (okI (a4 + (a5.length : Int))) <|
bif decide (75 < a4 + (a5.length : Int)) then
  grd (bw (a2.length + ([61, 13, 10] : List UInt8).length)) <|
  lt (a2 ++ ([61, 13, 10] : List UInt8)) fun x13 =>
  ga a5 x13 0
else
  ga a5 a2 a4
def eM (y36 : List UInt8) (y38 : Int) : Option ((List UInt8)) :=
some y36
def dR (y6 : Int) (rec10 : (Int × (List UInt8) × Int) → Option ((List UInt8))) (y31 : List UInt8) (y33 : Int) : Option ((List UInt8)) :=
grd (okI (y6 + 1)) <|
rec10 (y6 + 1, y31, y33)
def eN (F : Nat) (a1 : List UInt8) (rec10 : (Int × (List UInt8) × Int) → Option ((List UInt8))) (y6 : Int) (y7 : List UInt8) (y9 : Int) : Option ((List UInt8)) :=
bif decide (y6 < (a1.length : Int)) then
  grd (cE y6 a1.length) <|
  lt (at_ a1 y6) fun x14 =>
  bif decide (x14 = 10) then
    grd (bw (y7.length + ([13, 10] : List UInt8).length)) <|
    lt (y7 ++ ([13, 10] : List UInt8)) fun x19 =>
    dR y6 rec10 x19 0
  else
    grd (okI (y6 + 1)) <|
    grd (fP (y6 + 1) a1.length) <|
    lt (hZ a1 (y6 + 1)) fun x23 =>
    bnd (kd F x14 x23) fun x25 =>
    jX (lR F y7 y9 x25) fun x27 x28 =>
    dR y6 rec10 x27 x28
else
  eM y7 y9
def dl (F : Nat) (a1 : List UInt8) (n : Nat) : (Int × (List UInt8) × Int) → Option ((List UInt8)) :=
  loop (fun rec x => eN F a1 rec x.1 x.2.1 x.2.2) n
def jk (F : Nat) (a1 : List UInt8) : Option ((List UInt8)) :=
dl F a1 F (0, [], 0)
end Go.Pv
