/-
  Texts in one (only what HeadTells needs): LHeadTellsW, HdTellsM, AvOpen.
-/
import Derived.Test.YtiahdbdkjjmfiaaDoorZHeadTells3
import Derived.Test.YtiahdbdkjjmfiaaDoorShelf
import Derived.Test.YtiahdbdkjjmfiaaDoorChecked
import Derived.Lib.SplitLaws
import Derived.Lib.IndexMore
import Derived.Lib.TrimByte
import Derived.RowKit
import Derived.OpenShut
import Derived.ChangeSlices
import Derived.SliceStrings
set_option linter.unusedVariables false
set_option linter.unusedSimpArgs false
namespace Go.Proofs.YtiahdbdkjjmfiaaDoor
open Go.RowKit Go.Av Go.Pv
theorem en9_lheadtells : ∀ (args : Array Value) (w : World), (callFunc 9 args).run Tryd.prog w = .ok (.enter 9 args) w := fun _ _ => by kernel_rfl
theorem en10_lheadtells : ∀ (args : Array Value) (w : World), (callFunc 10 args).run Tryd.prog w = .ok (.enter 10 args) w := fun _ _ => by kernel_rfl
theorem en11_lheadtells : ∀ (args : Array Value) (w : World), (callFunc 11 args).run Tryd.prog w = .ok (.enter 11 args) w := fun _ _ => by kernel_rfl
theorem en13_lheadtells : ∀ (args : Array Value) (w : World), (callFunc 13 args).run Tryd.prog w = .ok (.enter 13 args) w := fun _ _ => by kernel_rfl
theorem en14_lheadtells : ∀ (args : Array Value) (w : World), (callFunc 14 args).run Tryd.prog w = .ok (.enter 14 args) w := fun _ _ => by kernel_rfl
theorem en15_lheadtells : ∀ (args : Array Value) (w : World), (callFunc 15 args).run Tryd.prog w = .ok (.enter 15 args) w := fun _ _ => by kernel_rfl
theorem en16_lheadtells : ∀ (args : Array Value) (w : World), (callFunc 16 args).run Tryd.prog w = .ok (.enter 16 args) w := fun _ _ => by kernel_rfl
theorem en17_lheadtells : ∀ (args : Array Value) (w : World), (callFunc 17 args).run Tryd.prog w = .ok (.enter 17 args) w := fun _ _ => by kernel_rfl
theorem en18_lheadtells : ∀ (args : Array Value) (w : World), (callFunc 18 args).run Tryd.prog w = .ok (.enter 18 args) w := fun _ _ => by kernel_rfl
set_option maxRecDepth 100000 in
set_option maxHeartbeats 1000000 in
theorem w_law14_HeadTells (F : Nat) (a1 : List UInt8) (a2 : List UInt8) (r3 : Bool) (H : law14_HeadTells F a1 a2 = some r3) : ACalls Tryd.prog 5 [.agg [S a1, S a2]] [] (Ret (B r3) []) := by
 unfold law14_HeadTells at H
 refine ACalls.of_body Tryd.func5 rfl rfl ?_
 show AW _ _ 62 _ _ _
 refine AW.seq ?_
 refine AW.region ?_
 show AR _ _ _ _ _ [0, 1] _
 refine sR rfl rfl rfl (opR_boxCp rfl (.inr ⟨_, rfl⟩)) ?_
 refine sS rfl rfl rfl (asg rfl) ?_
 refine AR.nil ?_
 show AW _ _ _ _ _ _
 refine AW.seq ?_
 obtain ⟨x4, e5, H⟩ := bnd_s H
 refine AW.region ?_
 show AR _ _ _ _ _ [0, 1] _
 refine AR.run rfl rfl (AO.callp rfl en9_lheadtells rfl (w_law14_awake F x4 e5) ?_)
 refine sS rfl rfl rfl (asg rfl) ?_
 refine AR.nil ?_
 show AW _ _ _ _ _ _
 refine AW.seq ?_
 obtain ⟨x6, e7, H⟩ := bnd_s H
 refine AW.region ?_
 show AR _ _ _ _ _ [0, 1, 2, 3] _
 refine sS rfl rfl rfl (opS_load_cp_agg Tryd.underlying23 rfl (n := 2) (by kernel_rfl) rfl (Nat.le_of_ble_eq_true rfl)) ?_
 refine sR rfl rfl rfl (opR_buildBig (E := (Enc.prod Enc.str Enc.str)) (bytes := 32) (zs := [.string ⟨#[]⟩, .string ⟨#[]⟩]) (l := ([(a1, a2)] : List ((List UInt8) × List UInt8))) Tryd.underlying27 (by kernel_rfl) (by kernel_rfl) rfl rfl rfl rfl rfl) ?_
 refine AR.run rfl rfl (AO.callp rfl en10_lheadtells rfl (w_law14_Few F ([(a1, a2)] : List ((List UInt8) × List UInt8)) none 1 x6 e7) ?_)
 refine sS rfl rfl rfl (asg rfl) ?_
 refine AR.nil ?_
 show AW _ _ _ _ _ _
 refine AW.seq ?_
 refine AW.seq ?_
 refine AW.region ?_
 show AR _ _ _ _ _ [0, 1, 2, 3, 4, 5] _
 refine sS rfl rfl rfl (mv rfl) ?_
 refine sS rfl rfl rfl (opS_not rfl) ?_
 refine sS rfl rfl rfl (mv rfl) ?_
 refine AR.meet (l := []) 20 (B ((!x4) || (!x6))) (fun K => ?_) ?_
 ·rcases Bool.eq_false_or_eq_true (!x4) with h8 | h8
  ·
   refine gF h8 rfl rfl rfl rfl rfl ?_
   refine gF h8 rfl rfl rfl rfl rfl ?_
   refine sS rfl rfl rfl (opS_pick_t (av := .v _) rfl h8 rfl) ?_
   exact K _ 2 _ (B_congr (or_t h8)) rfl rfl
  ·
   refine gT h8 rfl rfl rfl rfl rfl rfl (AO.ops rfl rfl (mv rfl) ?_)
   refine gT h8 rfl rfl rfl rfl rfl rfl (AO.ops rfl rfl (opS_not rfl) ?_)
   refine sS rfl rfl rfl (opS_pick_f (av := .v _) rfl h8 rfl) ?_
   exact K _ 2 _ (B_congr (or_f h8)) rfl rfl
 refine AR.nil ?_
 show AW _ _ _ _ _ _
 refine AW.cond rfl (fun c9 => ?_) (fun c9 => ?_)
 ·replace H := cnd_t c9 H
  refine AW.seq ?_
  refine AW.region ?_
  show AR _ _ _ _ _ [0, 1] _
  refine sS rfl rfl rfl (mv rfl) ?_
  refine sS rfl rfl rfl (asg rfl) ?_
  refine AR.nil ?_
  show AW _ _ _ _ _ _
  refine AW.ret ?_
  obtain rfl := Option.some.inj H
  exact And.intro rfl (Exists.intro _ (Exists.intro _ ⟨ResV.oneW rfl (.refl _), Sub.at [] rfl, rfl, rfl⟩))
 ·replace H := cnd_f c9 H
  refine AW.skip ?_
  show AW _ _ _ _ _ _
  refine AW.seq ?_
  obtain ⟨x10, x11, e12, H⟩ := bnd2_s H
  refine AW.region ?_
  show AR _ _ _ _ _ [0, 1, 2, 3, 4, 5, 6] _
  refine sS rfl rfl rfl (opS_load_cp_agg Tryd.underlying23 rfl (n := 2) (by kernel_rfl) rfl (Nat.le_of_ble_eq_true rfl)) ?_
  refine AR.run rfl rfl (AO.callp rfl en11_lheadtells rfl (w_head_Line F a1 a2 x10 x11 e12) ?_)
  refine sS rfl rfl rfl (opS_move (av := .tup _) rfl) ?_
  refine sS rfl rfl rfl (opS_extract (av := slE _ _ _) rfl rfl) ?_
  refine sS rfl rfl rfl (opS_extract (av := .v _) rfl rfl) ?_
  refine sS rfl rfl rfl (opS_assign (av := slE _ _ _) rfl) ?_
  refine sS rfl rfl rfl (asg rfl) ?_
  refine AR.nil ?_
  show AW _ _ _ _ _ _
  refine AW.seq ?_
  obtain ⟨x13, x14, e15, H⟩ := bnd2_s H
  refine AW.region ?_
  show AR _ _ _ _ _ [0, 1, 2, 3, 4, 5, 6] _
  refine sS rfl rfl rfl (opS_load_cp_agg Tryd.underlying23 rfl (n := 2) (by kernel_rfl) rfl (Nat.le_of_ble_eq_true rfl)) ?_
  refine AR.run rfl rfl (AO.callp rfl en13_lheadtells rfl (w_ref14_Line F a1 a2 x13 x14 e15) ?_)
  refine sS rfl rfl rfl (opS_move (av := .tup _) rfl) ?_
  refine sS rfl rfl rfl (opS_extract (av := slE _ _ _) rfl rfl) ?_
  refine sS rfl rfl rfl (opS_extract (av := .v _) rfl rfl) ?_
  refine sS rfl rfl rfl (opS_assign (av := slE _ _ _) rfl) ?_
  refine sS rfl rfl rfl (asg rfl) ?_
  refine AR.nil ?_
  show AW _ _ _ _ _ _
  refine AW.seq ?_
  obtain ⟨x16, e17, H⟩ := bnd_s H
  obtain ⟨x18, e19, H⟩ := bnd_s H
  obtain ⟨x20, e21, H⟩ := bnd_s H
  refine AW.region_draw (by kernel_rfl) ?_
  show AI _ _ _ _ _ 8 (Array.replicate 8 false) _
  refine AI.take (i := 0) rfl rfl (by kernel_rfl) (by kernel_rfl) (by kernel_rfl) (fun _ _ h => h) (opS_fieldAddr_cp (n := 1) (by kernel_rfl) rfl (Nat.le_of_ble_eq_true rfl)) ?_
  show AI _ _ _ _ _ _ #[true, false, false, false, false, false, false, false] _
  refine AI.take (i := 1) rfl rfl (by kernel_rfl) (by kernel_rfl) (by kernel_rfl) (fun _ _ h => h) (opS_load_cp Tryd.underlying9 rfl rfl) ?_
  show AI _ _ _ _ _ _ #[true, true, false, false, false, false, false, false] _
  refine AI.take (i := 3) rfl rfl (by kernel_rfl) (by kernel_rfl) (by kernel_rfl) (fun _ _ h => h) (opS_fieldAddr_cp (n := 1) (by kernel_rfl) rfl (Nat.le_of_ble_eq_true rfl)) ?_
  show AI _ _ _ _ _ _ #[true, true, false, true, false, false, false, false] _
  refine AI.take (i := 4) rfl rfl (by kernel_rfl) (by kernel_rfl) (by kernel_rfl) (fun _ _ h => h) (opS_load_cp Tryd.underlying9 rfl rfl) ?_
  show AI _ _ _ _ _ _ #[true, true, false, true, true, false, false, false] _
  refine AI.one (i := 2) (by kernel_rfl) rfl rfl ?_
  refine AIO.callp rfl en15_lheadtells rfl (w_head_Words F a2 x16 e17) ?_
  show AI _ _ _ _ _ _ #[true, true, true, true, true, false, false, false] _
  refine AI.one (i := 5) (by kernel_rfl) rfl rfl ?_
  refine AIO.callp rfl en16_lheadtells rfl (w_ref14_Words F a2 x18 e19) ?_
  show AI _ _ _ _ _ _ #[true, true, true, true, true, true, false, false] _
  refine AI.one (i := 6) (by kernel_rfl) rfl rfl ?_
  refine AIO.callp rfl en14_lheadtells rfl (w_ref11_Same F x16 none x18 none x20 e21) ?_
  show AI _ _ _ _ _ _ #[true, true, true, true, true, true, true, false] _
  refine AI.take (i := 7) rfl rfl (by kernel_rfl) (by kernel_rfl) (by kernel_rfl) (fun _ _ h => h) (asg rfl) ?_
  show AI _ _ _ _ _ _ #[true, true, true, true, true, true, true, true] _
  refine AI.done rfl ?_
  show AW _ _ _ _ _ _
  refine AW.seq ?_
  obtain ⟨x22, e23, H⟩ := bnd_s H
  refine AW.region ?_
  show AR _ _ _ _ _ [0, 1, 2, 3] _
  refine sS rfl rfl rfl (opS_fieldAddr_cp (n := 1) (by kernel_rfl) rfl (Nat.le_of_ble_eq_true rfl)) ?_
  refine sS rfl rfl rfl (opS_load_cp Tryd.underlying9 rfl rfl) ?_
  refine AR.run rfl rfl (AO.callp rfl en17_lheadtells rfl (w_ref14_Plain F a2 x22 e23) ?_)
  refine sS rfl rfl rfl (asg rfl) ?_
  refine AR.nil ?_
  show AW _ _ _ _ _ _
  refine AW.seq ?_
  obtain ⟨x27, e28, H⟩ := bndc_s H
  refine AW.region ?_
  show AR _ _ _ _ _ [0, 1, 2, 3, 4, 5, 6, 7, 8, 9, 10, 11, 12, 13, 14, 15, 16, 17, 18, 19, 20] _
  refine sS rfl rfl rfl (opS_move (av := slE _ _ _) rfl) ?_
  refine sS rfl rfl rfl (opS_conv_bytes_str Tryd.underlying24 Tryd.underlying5 Tryd.underlying9 rfl) ?_
  refine sS rfl rfl rfl (opS_move (av := slE _ _ _) rfl) ?_
  refine sS rfl rfl rfl (opS_conv_bytes_str Tryd.underlying24 Tryd.underlying5 Tryd.underlying9 rfl) ?_
  refine sS rfl rfl rfl (opS_eqs rfl rfl) ?_
  refine sS rfl rfl rfl (mv rfl) ?_
  refine AR.meet (l := [10, 11, 12, 13, 14, 15, 16, 17, 18, 19, 20]) 51 (B ((decide (x10 = x13)) && (decide (x11 = x14)))) (fun K => ?_) ?_
  ·rcases Bool.eq_false_or_eq_true (decide (x10 = x13)) with h24 | h24
   ·
    refine gT h24 rfl rfl rfl rfl rfl rfl (AO.ops rfl rfl (mv rfl) ?_)
    refine gT h24 rfl rfl rfl rfl rfl rfl (AO.ops rfl rfl (mv rfl) ?_)
    refine gT h24 rfl rfl rfl rfl rfl rfl (AO.ops rfl rfl (opS_eqi rfl rfl) ?_)
    refine sS rfl rfl rfl (opS_pick_t (av := .v _) rfl h24 rfl) ?_
    exact K _ 3 _ (B_congr (and_t h24)) rfl rfl
   ·
    refine gF h24 rfl rfl rfl rfl rfl ?_
    refine gF h24 rfl rfl rfl rfl rfl ?_
    refine gF h24 rfl rfl rfl rfl rfl ?_
    refine sS rfl rfl rfl (opS_pick_f (av := .v _) rfl h24 rfl) ?_
    exact K _ 3 _ (B_congr (and_f h24)) rfl rfl
  refine sS rfl rfl rfl (mv rfl) ?_
  refine AR.meet (l := [13, 14, 15, 16, 17, 18, 19, 20]) 54 (B (((decide (x10 = x13)) && (decide (x11 = x14))) && x20)) (fun K => ?_) ?_
  ·rcases Bool.eq_false_or_eq_true ((decide (x10 = x13)) && (decide (x11 = x14))) with h25 | h25
   ·
    refine gT h25 rfl rfl rfl rfl rfl rfl (AO.ops rfl rfl (mv rfl) ?_)
    refine sS rfl rfl rfl (opS_pick_t (av := .v _) rfl h25 rfl) ?_
    exact K _ 1 _ (B_congr (and_t h25)) rfl rfl
   ·
    refine gF h25 rfl rfl rfl rfl rfl ?_
    refine sS rfl rfl rfl (opS_pick_f (av := .v _) rfl h25 rfl) ?_
    exact K _ 1 _ (B_congr (and_f h25)) rfl rfl
  refine sS rfl rfl rfl (mv rfl) ?_
  refine AR.meet (l := [20]) 61 (B ((((decide (x10 = x13)) && (decide (x11 = x14))) && x20) && (x27 == x22))) (fun K => ?_) ?_
  ·rcases Bool.eq_false_or_eq_true (((decide (x10 = x13)) && (decide (x11 = x14))) && x20) with h26 | h26
   ·
    refine gT h26 rfl rfl rfl rfl rfl rfl (AO.ops rfl rfl (opS_fieldAddr_cp (n := 1) (by kernel_rfl) rfl (Nat.le_of_ble_eq_true rfl)) ?_)
    refine gT h26 rfl rfl rfl rfl rfl rfl (AO.ops rfl rfl (opS_load_cp Tryd.underlying9 rfl rfl) ?_)
    refine gT h26 rfl rfl rfl rfl rfl rfl (AO.callp rfl en18_lheadtells rfl (w_head_Plain F a2 x27 (e28 h26)) ?_)
    refine gT h26 rfl rfl rfl rfl rfl rfl (AO.ops rfl rfl (mv rfl) ?_)
    refine gT h26 rfl rfl rfl rfl rfl rfl (AO.ops rfl rfl (opS_eqb Tryd.underlying4 rfl rfl) ?_)
    refine sS rfl rfl rfl (opS_pick_t (av := .v _) rfl h26 rfl) ?_
    exact K _ 5 _ (B_congr (and_t h26)) rfl rfl
   ·
    refine gF h26 rfl rfl rfl rfl rfl ?_
    refine gF h26 rfl rfl rfl rfl rfl ?_
    refine gF h26 rfl rfl rfl rfl rfl ?_
    refine gF h26 rfl rfl rfl rfl rfl ?_
    refine gF h26 rfl rfl rfl rfl rfl ?_
    refine sS rfl rfl rfl (opS_pick_f (av := .v _) rfl h26 rfl) ?_
    exact K _ 5 _ (B_congr (and_f h26)) rfl rfl
  refine sS rfl rfl rfl (asg rfl) ?_
  refine AR.nil ?_
  show AW _ _ _ _ _ _
  refine AW.ret ?_
  obtain rfl := Option.some.inj H
  exact And.intro rfl (Exists.intro _ (Exists.intro _ ⟨ResV.oneW rfl (.refl _), Sub.at [] rfl, rfl, rfl⟩))
end Go.Proofs.YtiahdbdkjjmfiaaDoor
namespace Go.Hd
open Go.Pv Go.Av
abbrev Bs := List UInt8
def sp (c : UInt8) : Bs → List Bs
  | [] => [[]]
  | b :: r => if b = c then [] :: sp c r else match sp c r with
    | [] => [[b]]
    | p :: ps => (b :: p) :: ps
theorem sp_ne (c : UInt8) (s : Bs) : sp c s ≠ [] := by
  cases s with
  | nil => simp [sp]
  | cons b r => unfold sp; split; simp; split <;> simp
theorem index_one_cons (b c : UInt8) (l : Bs) : Go.Lib.index (b :: l) [c] = if b = c then 0 else if Go.Lib.index l [c] = -1 then -1 else Go.Lib.index l [c] + 1 := by
  by_cases h : b = c
  · subst h; simp [Go.Lib.index]
  · simp [Go.Lib.index, h, Ne.symm h]
def prep (cur : Bs) : List Bs → List Bs
  | [] => [cur]
  | p :: ps => (cur ++ p) :: ps
theorem sp_cons_ne {b c : UInt8} (h : ¬ b = c) (r : Bs) : sp c (b :: r) = prep [b] (sp c r) := by
  simp only [sp, h, if_false]
  cases sp c r <;> rfl
theorem sp_cons_eq (c : UInt8) (r : Bs) : sp c (c :: r) = [] :: sp c r := by simp [sp]
theorem prep_prep (a b : Bs) (l : List Bs) : prep a (prep b l) = prep (a ++ b) l := by cases l <;> simp [prep]
theorem prep_nil {l : List Bs} (h : l ≠ []) : prep [] l = l := by cases l <;> simp_all [prep]
theorem splitK_eq (c : UInt8) : ∀ (s : Bs), Go.Lib.splitK [c] 0 (s.count c) s = sp c s
  | [] => rfl
  | b :: l => by
    have ih := splitK_eq c l
    have hi := index_one_cons b c l
    have hge := Go.Lib.index_ge l [c]
    by_cases h : b = c
    · subst h
      rw [List.count_cons_self, sp_cons_eq, Go.Lib.splitK, hi]
      simp [ih]
    · rw [List.count_cons_of_ne h, sp_cons_ne h, ← ih]
      cases hk : l.count c with
      | zero => simp [Go.Lib.splitK, prep]
      | succ k =>
        rw [Go.Lib.splitK, Go.Lib.splitK, hi]
        simp only [h, if_false]
        by_cases hm : Go.Lib.index l [c] = -1
        · simp [hm, prep]
        · obtain ⟨j, hj⟩ := Int.eq_ofNat_of_zero_le (show 0 ≤ Go.Lib.index l [c] by omega)
          have h2 : ¬ (Go.Lib.index l [c] + 1 = -1) := by omega
          have h3 : (Go.Lib.index l [c] + 1).toNat = j + 1 := by omega
          have h4 : (Go.Lib.index l [c]).toNat = j := by omega
          simp [hm, h2, h3, h4, prep]
theorem split_one (s : Bs) (c : UInt8) : Go.Lib.split s [c] = sp c s := by
  unfold Go.Lib.split
  rw [Go.Lib.count_one, splitK_eq]
theorem sp_length (c : UInt8) (s : Bs) : (sp c s).length ≤ s.length + 1 := by
  induction s with
  | nil => simp [sp]
  | cons b r ih =>
    by_cases h : b = c
    · subst h; rw [sp_cons_eq]; simp; omega
    · rw [sp_cons_ne h]
      cases hs : sp c r with
      | nil => simp [prep]
      | cons p ps => rw [hs] at ih; simp [prep] at ih ⊢; omega
theorem sp_total (c : UInt8) (s : Bs) : Str.total (sp c s) + (sp c s).length = s.length + 1 := by
  induction s with
  | nil => simp [sp, Str.total]
  | cons b r ih =>
    by_cases h : b = c
    · subst h; rw [sp_cons_eq]; simp [Str.total]; omega
    · rw [sp_cons_ne h]
      cases hs : sp c r with
      | nil => exact absurd hs (sp_ne c r)
      | cons p ps => rw [hs] at ih; simp [prep, Str.total] at ih ⊢; omega
theorem ref05_loop (s : Bs) (c : UInt8) (hs : s.length ≤ 1000000) : ∀ (n : Nat) (l : List Bs) (f i : Nat), s.length + 1 - i < n → i ≤ s.length → f ≤ i → l.length ≤ i →
    ref05_Split_L1 s c n (l, (f : Int), (i : Int)) = some (l ++ prep ((s.take i).drop f) (sp c (s.drop i))) := by
  intro n
  induction n with
  | zero => intro l f i h; omega
  | succ n ih =>
    intro l f i hn hi hf hl
    show ref05_Split_B1 s c (ref05_Split_L1 s c n) l (f : Int) (i : Int) = _
    unfold ref05_Split_B1 ref05_Split_j2
    by_cases h : i < s.length
    · have hd : s.drop i = s[i] :: s.drop (i + 1) := List.drop_eq_getElem_cons h
      have hne : decide ((i : Int) = (s.length : Int)) = false := decide_eq_false (by omega)
      simp (disch := omega) only [bT, hne, Bool.not_false, grdc_t, grd_At, lt_eq, at_nat h, Bool.false_or]
      rw [hd]
      by_cases hc : s[i] = c
      · simp (disch := (first | omega | (simp; omega))) only [hc, decide_true, cond_true, grd_Sub, sub_nat, grd_Cat, grd_I, cast_succ]
        rw [ih _ _ _ (by omega) (by omega) (by omega) (by simp; omega)]
        rw [List.drop_eq_nil_of_le (show (s.take (i + 1)).length ≤ i + 1 by simp; omega), prep_nil (sp_ne _ _), sp_cons_eq]
        simp [prep]
      · simp (disch := (first | omega | (simp; omega))) only [hc, decide_false, cond_false, grd_I, cast_succ]
        rw [ih _ _ _ (by omega) (by omega) (by omega) (by omega), sp_cons_ne hc, prep_prep]
        rw [List.take_succ_eq_append_getElem h, List.drop_append_of_le_length (by simp; omega)]
    · have hi2 : i = s.length := by omega
      subst hi2
      have hyes : decide ((s.length : Int) = (s.length : Int)) = true := decide_eq_true rfl
      simp (disch := (first | omega | (simp; omega))) only [bT, hyes, Bool.not_true, grdc_f, lt_eq, Bool.true_or, cond_true, grd_Sub, sub_nat, grd_Cat, grd_I, cast_succ, List.drop_length]
      obtain ⟨m, rfl⟩ : ∃ m, n = m + 1 := ⟨n - 1, by omega⟩
      show ref05_Split_B1 s c (ref05_Split_L1 s c m) _ _ ((s.length + 1 : Nat) : Int) = _
      unfold ref05_Split_B1 ref05_Split_j1
      have h1 : ¬ (((s.length + 1 : Nat) : Int) ≤ (s.length : Int)) := by omega
      rw [bF h1]
      simp [sp, prep]
theorem ref05_Split_eq (F : Nat) (s : Bs) (c : UInt8) (hs : s.length ≤ 1000000) (hF : s.length + 1 < F) : ref05_Split F s c = some (sp c s) := by
  have := ref05_loop s c hs F [] 0 0 (by omega) (by omega) (by omega) (by simp)
  rw [show ref05_Split F s c = ref05_Split_L1 s c F ([], ((0 : Nat) : Int), ((0 : Nat) : Int)) from rfl, this]
  simp [prep_nil (sp_ne _ _)]
end Go.Hd
namespace Go.Hd
open Go.Pv Go.Av
theorem of_all8 (p : UInt8 → Bool) (h : ∀ k : Fin 256, p (UInt8.ofNat k.val) = true) (b : UInt8) : p b = true := by
  have := h ⟨b.toNat, b.toNat_lt⟩
  simpa using this
theorem u64_id (x : Int) (h0 : 0 ≤ x) (h1 : x < 18446744073709551616) : IntKind.u64.wrap x = x := by
  have : IntKind.u64.wrap x = x % 18446744073709551616 := rfl
  rw [this]; omega
theorem bvn (n : Nat) (h : n < 2 ^ 64) : (BitVec.ofInt 64 (n : Int)).toNat = n := by
  rw [BitVec.ofInt_natCast, BitVec.toNat_ofNat]; exact Nat.mod_eq_of_lt h
theorem or_two (a b k : Nat) (ha : a * 2 ^ k < 2 ^ 64) (hb : b < 2 ^ k) (hk : b < 2 ^ 64) : (BitVec.ofInt IntKind.u64.bits ((a * 2 ^ k : Nat) : Int) ||| BitVec.ofInt IntKind.u64.bits (b : Int)).toNat = a * 2 ^ k + b := by
  show (BitVec.ofInt 64 ((a * 2 ^ k : Nat) : Int) ||| BitVec.ofInt 64 (b : Int)).toNat = _
  rw [BitVec.toNat_or, bvn _ ha, bvn _ hk, ← Nat.shiftLeft_eq, Nat.shiftLeft_add_eq_or_of_lt hb]
theorem and_63 (a : Nat) (ha : a < 2 ^ 64) : (BitVec.ofInt IntKind.u64.bits (a : Int) &&& BitVec.ofInt IntKind.u64.bits 63).toNat = a % 64 := by
  show (BitVec.ofInt 64 (a : Int) &&& BitVec.ofInt 64 ((63 : Nat) : Int)).toNat = _
  rw [BitVec.toNat_and, bvn _ ha, bvn _ (by decide)]
  exact Nat.and_two_pow_sub_one_eq_mod a 6
def q3 (a b c : Nat) : Nat := a * 65536 + b * 256 + c
def ch (n : Nat) : UInt8 := b64_k1.getD n default
theorem val3 (a b c : UInt8) : IntKind.u64.wrap ((BitVec.ofInt IntKind.u64.bits (IntKind.u64.wrap ((BitVec.ofInt IntKind.u64.bits (IntKind.u64.wrap ((IntKind.u64.wrap (a.toNat : Int)) * 2 ^ min (Int.toNat 16) IntKind.u64.bits)) ||| BitVec.ofInt IntKind.u64.bits (IntKind.u64.wrap ((IntKind.u64.wrap (b.toNat : Int)) * 2 ^ min (Int.toNat 8) IntKind.u64.bits))).toNat)) ||| BitVec.ofInt IntKind.u64.bits (IntKind.u64.wrap (c.toNat : Int))).toNat) = (q3 a.toNat b.toNat c.toNat : Int) := by
  have ha := a.toNat_lt
  have hb := b.toNat_lt
  have hc := c.toNat_lt
  have e16 : (2 : Int) ^ min (Int.toNat 16) IntKind.u64.bits = 65536 := by decide +kernel
  have e8 : (2 : Int) ^ min (Int.toNat 8) IntKind.u64.bits = 256 := by decide +kernel
  rw [e16, e8, u64_id a.toNat (by omega) (by omega), u64_id b.toNat (by omega) (by omega), u64_id c.toNat (by omega) (by omega)]
  rw [u64_id ((a.toNat : Int) * 65536) (by omega) (by omega), u64_id ((b.toNat : Int) * 256) (by omega) (by omega)]
  have e1 : (a.toNat : Int) * 65536 = ((a.toNat * 2 ^ 16 : Nat) : Int) := by omega
  have e2 : (b.toNat : Int) * 256 = ((b.toNat * 256 : Nat) : Int) := by omega
  rw [e1, e2, or_two a.toNat (b.toNat * 256) 16 (by omega) (by omega) (by omega)]
  rw [u64_id ((a.toNat * 2 ^ 16 + b.toNat * 256 : Nat) : Int) (by omega) (by omega)]
  have e3 : a.toNat * 2 ^ 16 + b.toNat * 256 = (a.toNat * 256 + b.toNat) * 2 ^ 8 := by omega
  rw [e3, or_two (a.toNat * 256 + b.toNat) c.toNat 8 (by omega) (by omega) (by omega)]
  rw [u64_id (((a.toNat * 256 + b.toNat) * 2 ^ 8 + c.toNat : Nat) : Int) (by omega) (by omega)]
  unfold q3; omega
theorem idx6 (s : Nat) (v : Nat) (hv : v < 16777216) (hs : s ≤ 18) : IntKind.u64.wrap ((BitVec.ofInt IntKind.u64.bits (Int.fdiv (v : Int) (2 ^ min s IntKind.u64.bits)) &&& BitVec.ofInt IntKind.u64.bits 63).toNat) = ((v / 2 ^ s % 64 : Nat) : Int) := by
  have e : min s IntKind.u64.bits = s := by show min s 64 = s; omega
  have e2 : Int.fdiv (v : Int) (2 ^ s) = ((v / 2 ^ s : Nat) : Int) := by
    have : ((2 : Int) ^ s) = ((2 ^ s : Nat) : Int) := by simp
    rw [this, Int.fdiv_eq_ediv_of_nonneg _ (Int.natCast_nonneg _)]; rfl
  have h1 : v / 2 ^ s ≤ v := Nat.div_le_self _ _
  rw [e, e2, and_63 _ (by omega), u64_id _ (by omega) (by omega)]
theorem k1_len : b64_k1.length = 64 := by decide +kernel
theorem rk_eq : headr_k1 = b64_k1 := by decide +kernel
theorem at_ch (n : Nat) : at_ b64_k1 (n : Int) = ch n := by
  unfold at_ ch; rw [Int.toNat_natCast]
def four (a b c : UInt8) : Bs := let v := q3 a.toNat b.toNat c.toNat; [ch (v / 262144), ch (v / 4096 % 64), ch (v / 64 % 64), ch (v % 64)]
def enc : Bs → Bs
  | a :: b :: c :: r => four a b c ++ enc r
  | [a, b] => (four a b 0).take 3 ++ [61]
  | [a] => (four a 0 0).take 2 ++ [61, 61]
  | [] => []
theorem enc_len : ∀ s : Bs, (enc s).length ≤ 2 * s.length + 2
  | a :: b :: c :: r => by
    have := enc_len r
    simp [enc, four]; omega
  | [a, b] => by simp [enc, four]
  | [a] => by simp [enc, four]
  | [] => by simp [enc]
theorem q3_lt (a b c : UInt8) : q3 a.toNat b.toNat c.toNat < 16777216 := by
  have ha := a.toNat_lt
  have hb := b.toNat_lt
  have hc := c.toNat_lt
  unfold q3; omega
theorem group_eq (F : Nat) (s : Bs) (a b c : UInt8) (hs : s.length ≤ 3) (h : cpyB [0, 0, 0] s = [a, b, c]) :
    b64_group F s = some (ch (q3 a.toNat b.toNat c.toNat / 262144), bif decide ((s.length : Int) < 1) then 61 else ch (q3 a.toNat b.toNat c.toNat / 4096 % 64), bif decide ((s.length : Int) < 2) then 61 else ch (q3 a.toNat b.toNat c.toNat / 64 % 64), bif decide ((s.length : Int) < 3) then 61 else ch (q3 a.toNat b.toNat c.toNat % 64)) := by
  have hq := q3_lt a b c
  unfold b64_group
  rw [grd_D hs, lt_eq, h]
  have g0 : ([a, b, c].getD 0 0) = a := rfl
  have g1 : ([a, b, c].getD 1 0) = b := rfl
  have g2 : ([a, b, c].getD 2 0) = c := rfl
  unfold b64_group_j5 b64_group_j4 b64_group_j3 b64_group_j2 b64_group_j1
  rw [g0, g1, g2, val3]
  have d16 : (decide ((0 : Int) ≤ 16)) = true := rfl
  have i18 := idx6 (Int.toNat 18) _ hq (by decide)
  have i12 := idx6 (Int.toNat 12) _ hq (by decide)
  have i6 := idx6 (Int.toNat 6) _ hq (by decide)
  have i0 := idx6 (Int.toNat 0) _ hq (by decide)
  rw [i18, i12, i6, i0]
  have k : ∀ n : Nat, okAt ((n % 64 : Nat) : Int) b64_k1.length = true := fun n => by rw [k1_len]; exact decide_eq_true (by omega)
  have e18 : q3 a.toNat b.toNat c.toNat / 2 ^ Int.toNat 18 % 64 = q3 a.toNat b.toNat c.toNat / 262144 := by
    show q3 a.toNat b.toNat c.toNat / 262144 % 64 = _; omega
  have e12 : q3 a.toNat b.toNat c.toNat / 2 ^ Int.toNat 12 % 64 = q3 a.toNat b.toNat c.toNat / 4096 % 64 := rfl
  have e6 : q3 a.toNat b.toNat c.toNat / 2 ^ Int.toNat 6 % 64 = q3 a.toNat b.toNat c.toNat / 64 % 64 := rfl
  have e0 : q3 a.toNat b.toNat c.toNat / 2 ^ Int.toNat 0 % 64 = q3 a.toNat b.toNat c.toNat % 64 := by
    show q3 a.toNat b.toNat c.toNat / 1 % 64 = _; omega
  have k2 : okAt ((q3 a.toNat b.toNat c.toNat / 262144 : Nat) : Int) b64_k1.length = true := by rw [k1_len]; exact decide_eq_true (by omega)
  simp (disch := first | omega | decide) only [grd_D, k, grd_t, lt_eq, at_ch, e18, e12, e6, e0, k2]
  rw [bF (by omega)]
  by_cases h1 : (s.length : Int) < 1
  · simp (disch := omega) only [bT]
  · by_cases h2 : (s.length : Int) < 2
    · simp (disch := omega) only [bT, bF]
    · by_cases h3 : (s.length : Int) < 3
      · simp (disch := omega) only [bT, bF]
      · simp (disch := omega) only [bF]
theorem raw_loop (F : Nat) : ∀ (n : Nat) (s out : Bs), s.length < n → out.length + 4 * s.length + 10 ≤ 100000000 → b64_Raw_L1 F n (s, out) = some (out ++ enc s) := by
  intro n
  induction n with
  | zero => intro s out h; omega
  | succ n ih =>
    intro s out hn hl
    show b64_Raw_B1 F (b64_Raw_L1 F n) s out = _
    unfold b64_Raw_B1
    have key : ∀ (p r g : Bs) (a b c : UInt8) (x y z w : UInt8), s = p ++ r → (min 3 (s.length : Int)) = (p.length : Int) → 1 ≤ p.length → p.length ≤ 3 → cpyB [0, 0, 0] p = [a, b, c] →
        b64_group F p = some (x, y, z, w) → enc s = [x, y, z, w] ++ enc r →
        (bif decide (0 < (s.length : Int)) then grd (okTo (min 3 (s.length : Int)) s.length) <| lt (to_ s (min 3 (s.length : Int))) fun x14 => bnd4 (b64_group F x14) fun x16 x17 x18 x19 => grd (okW out ([x16, x17, x18, x19] : List UInt8)) <| lt (out ++ ([x16, x17, x18, x19] : List UInt8)) fun x23 => grd (okTo (min 3 (s.length : Int)) s.length) <| lt (from_ s (min 3 (s.length : Int))) fun x27 => b64_Raw_L1 F n (x27, x23) else b64_Raw_j1 out) = some (out ++ enc s) := by
      intro p r g a b c x y z w hs hm h1 h3 hc hg he
      have hlen : s.length = p.length + r.length := by rw [hs]; simp
      rw [bT (by omega), grd_To (by omega), lt_eq, hm, to_nat]
      have e1 : s.take p.length = p := by rw [hs]; simp
      have e2 : s.drop p.length = r := by rw [hs]; simp
      rw [e1, hg]
      show grd (okW out [x, y, z, w]) _ = _
      rw [grd_W (by simp; omega), lt_eq, grd_To (by omega), lt_eq, from_nat, e2, ih _ _ (by omega) (by simp; omega), he]
      simp
    match s with
    | a :: b :: c :: r =>
      refine key [a, b, c] r [] a b c _ _ _ _ rfl (by simp; omega) (by simp) (by simp) rfl (group_eq F _ a b c (by simp) rfl) ?_
      rw [bF (by simp), bF (by simp), bF (by simp)]; rfl
    | [a, b] =>
      refine key [a, b] [] [] a b 0 _ _ _ _ rfl (by simp; try omega) (by simp) (by simp) rfl (group_eq F _ a b 0 (by simp) rfl) ?_
      rw [bF (by simp), bF (by simp), bT (by simp)]; rfl
    | [a] =>
      refine key [a] [] [] a 0 0 _ _ _ _ rfl (by simp; try omega) (by simp) (by simp) rfl (group_eq F _ a 0 0 (by simp) rfl) ?_
      rw [bF (by simp), bT (by simp), bT (by simp)]; rfl
    | [] =>
      rw [bF (by simp)]
      unfold b64_Raw_j1
      rw [grd_W (by simp at hl ⊢; omega)]; simp [enc]
theorem Raw_eq (F : Nat) (s : Bs) (hF : s.length < F) (hs : s.length ≤ 1000000) : b64_Raw F s = some (enc s) := by
  have := raw_loop F F s [] hF (by simp; omega)
  rw [List.nil_append] at this
  exact this
theorem rat_ch (n : Nat) : at_ headr_k1 (n : Int) = ch n := by rw [rk_eq]; exact at_ch n
theorem rk_len : headr_k1.length = 64 := by rw [rk_eq]; exact k1_len
theorem okc (n : Nat) (h : n < 64) : okAt (n : Int) headr_k1.length = true := by rw [rk_len]; exact decide_eq_true (by omega)
def gb (s : Bs) (i : Nat) : UInt8 := s.getD i 0
theorem j4_eq (s out : Bs) (i v : Nat) (rec8 : (Bs × Int) → Option Bs) (hs : s.length ≤ 1000000) (hi : i < s.length) (hv : v < 16777216) (ho : out.length ≤ 100000000) :
    ref13_Raw_j4 s out (i : Int) rec8 (v : Int) = rec8 (out ++ [ch (v / 262144), ch (v / 4096 % 64), bif decide (i + 1 < s.length) then ch (v / 64 % 64) else 61, bif decide (i + 2 < s.length) then ch (v % 64) else 61], ((i + 3 : Nat) : Int)) := by
  unfold ref13_Raw_j4
  have a1 : ((v : Int) / 262144) = ((v / 262144 : Nat) : Int) := by omega
  have a2 : ((v : Int) / 4096 % 64) = ((v / 4096 % 64 : Nat) : Int) := by omega
  have a3 : ((v : Int) / 64 % 64) = ((v / 64 % 64 : Nat) : Int) := by omega
  have a4 : ((v : Int) % 64) = ((v % 64 : Nat) : Int) := by omega
  have a5 : ((i : Int) + 3) = ((i + 3 : Nat) : Int) := by omega
  have hq : ∀ n : Nat, okAt ((n % 64 : Nat) : Int) headr_k1.length = true := fun n => okc _ (by omega)
  rw [grd_Div (by omega), a1, okc _ (by omega), grd_t, lt_eq, rat_ch, grd_Div (by omega), grd_Div (by omega), a2, hq, grd_t, lt_eq, rat_ch, grd_Cat (by simp; omega), lt_eq, grd_I (by omega)]
  unfold ref13_Raw_j3 ref13_Raw_j2
  by_cases h1 : i + 1 < s.length
  · rw [bT (show (i : Int) + 1 < s.length by omega), bT h1, grd_Div (by omega), grd_Div (by omega), a3, hq, grd_t, lt_eq, rat_ch, grd_Cat (by simp; omega), lt_eq, grd_I (by omega)]
    by_cases h2 : i + 2 < s.length
    · rw [bT (show (i : Int) + 2 < s.length by omega), bT h2, grd_Div (by omega), a4, hq, grd_t, lt_eq, rat_ch, grd_Cat (by simp; omega), lt_eq, grd_I (by omega), a5]
      simp
    · rw [bF (show ¬ (i : Int) + 2 < s.length by omega), bF h2, grd_Cat (by simp; omega), lt_eq, grd_I (by omega), a5]
      simp
  · rw [bF (show ¬ (i : Int) + 1 < s.length by omega), bF h1, grd_Cat (by simp; omega), lt_eq, grd_I (by omega)]
    rw [bF (show ¬ (i : Int) + 2 < s.length by omega), bF (show ¬ i + 2 < s.length by omega), grd_Cat (by simp; omega), lt_eq, grd_I (by omega), a5]
    simp
theorem rL1s (s out : Bs) (i : Int) (m : Nat) (rec8 : (Bs × Int) → Option Bs) (x : Int × Int) : ref13_Raw_L1 s out i rec8 (m + 1) x = ref13_Raw_B1 s out i rec8 (ref13_Raw_L1 s out i rec8 m) x.1 x.2 := rfl
theorem in_step (s out : Bs) (i j v m : Nat) (rec8 : (Bs × Int) → Option Bs) (hs : s.length ≤ 1000000) (hi : i < s.length) (hj : j < i + 3) (hv : v < 16777216) :
    ref13_Raw_L1 s out (i : Int) rec8 (m + 1) ((v : Int), (j : Int)) = ref13_Raw_L1 s out (i : Int) rec8 m (((256 * v + (gb s j).toNat : Nat) : Int), ((j + 1 : Nat) : Int)) := by
  show ref13_Raw_B1 s out (i : Int) rec8 (ref13_Raw_L1 s out (i : Int) rec8 m) (v : Int) (j : Int) = _
  unfold ref13_Raw_B1 ref13_Raw_j5
  rw [grd_I (by omega), bT (by omega), grd_I (by omega)]
  by_cases h : j < s.length
  · have h8 := s[j].toNat_lt
    rw [bT (by omega), grd_At (by omega), lt_eq, at_nat h, grd_I (by omega), grd_I (by omega)]
    have : gb s j = s[j] := by simp [gb, h]
    rw [this]; rfl
  · rw [bF (by omega), grd_I (by omega)]
    have : gb s j = 0 := by simp [gb, List.getD, List.getElem?_eq_none (show s.length ≤ j by omega)]
    rw [this]; rfl
theorem in_three (s out : Bs) (i m : Nat) (rec8 : (Bs × Int) → Option Bs) (hs : s.length ≤ 1000000) (hi : i < s.length) :
    ref13_Raw_L1 s out (i : Int) rec8 (m + 3) (((0 : Nat) : Int), (i : Int)) = ref13_Raw_L1 s out (i : Int) rec8 m (((q3 (gb s i).toNat (gb s (i + 1)).toNat (gb s (i + 2)).toNat : Nat) : Int), ((i + 3 : Nat) : Int)) := by
  have h0 := (gb s i).toNat_lt
  have h1 := (gb s (i + 1)).toNat_lt
  have h2 := (gb s (i + 2)).toNat_lt
  refine (in_step s out i i 0 (m + 2) rec8 hs hi (by omega) (by omega)).trans ?_
  refine (in_step s out i (i + 1) (256 * 0 + (gb s i).toNat) (m + 1) rec8 hs hi (by omega) (by omega)).trans ?_
  refine (in_step s out i (i + 2) (256 * (256 * 0 + (gb s i).toNat) + (gb s (i + 1)).toNat) m rec8 hs hi (by omega) (by omega)).trans ?_
  have e : 256 * (256 * (256 * 0 + (gb s i).toNat) + (gb s (i + 1)).toNat) + (gb s (i + 2)).toNat = q3 (gb s i).toNat (gb s (i + 1)).toNat (gb s (i + 2)).toNat := by unfold q3; omega
  rw [e]
theorem enc_drop (s : Bs) (i : Nat) (h : i < s.length) : enc (s.drop i) = [ch (q3 (gb s i).toNat (gb s (i + 1)).toNat (gb s (i + 2)).toNat / 262144), ch (q3 (gb s i).toNat (gb s (i + 1)).toNat (gb s (i + 2)).toNat / 4096 % 64), bif decide (i + 1 < s.length) then ch (q3 (gb s i).toNat (gb s (i + 1)).toNat (gb s (i + 2)).toNat / 64 % 64) else 61, bif decide (i + 2 < s.length) then ch (q3 (gb s i).toNat (gb s (i + 1)).toNat (gb s (i + 2)).toNat % 64) else 61] ++ enc (s.drop (i + 3)) := by
  have g : ∀ k, gb s (i + k) = (s.drop i).getD k 0 := by intro k; simp [gb, List.getD]
  have g0 := g 0
  have g1 := g 1
  have g2 := g 2
  have hl : (s.drop i).length = s.length - i := by simp
  have hd : s.drop (i + 3) = (s.drop i).drop 3 := by simp
  rw [Nat.add_zero] at g0
  rw [g0, g1, g2, hd]
  match hm : s.drop i with
  | a :: b :: c :: r => rw [hm] at hl; simp at hl; rw [bT (by omega), bT (by omega)]; rfl
  | [a, b] => rw [hm] at hl; simp at hl; rw [bT (by omega), bF (by omega)]; rfl
  | [a] => rw [hm] at hl; simp at hl; rw [bF (by omega), bF (by omega)]; rfl
  | [] => rw [hm] at hl; simp at hl; omega
theorem rraw_loop (F : Nat) (hF : 4 ≤ F) (s : Bs) (hs : s.length ≤ 1000000) : ∀ (n i : Nat) (out : Bs), s.length - i < n → i ≤ s.length + 3 → out.length ≤ 4 * i → ref13_Raw_L2 F s n (out, (i : Int)) = some (out ++ enc (s.drop i)) := by
  intro n
  induction n with
  | zero => intro i out h; omega
  | succ n ih =>
    intro i out hn hi ho
    show ref13_Raw_B2 F s (ref13_Raw_L2 F s n) out (i : Int) = _
    unfold ref13_Raw_B2
    by_cases h : i < s.length
    · obtain ⟨m, rfl⟩ : ∃ m, F = m + 4 := ⟨F - 4, by omega⟩
      have hq := q3_lt (gb s i) (gb s (i + 1)) (gb s (i + 2))
      rw [bT (by omega)]
      have h3 := in_three s out i (m + 1) (ref13_Raw_L2 (m + 4) s n) hs h
      refine h3.trans ?_
      rw [rL1s]
      unfold ref13_Raw_B1
      rw [grd_I (by omega), bF (by omega), j4_eq s out i _ _ hs h (by omega) (by omega), ih _ _ (by omega) (by omega) (by simp; omega), enc_drop s i h, List.append_assoc]
    · have hd : s.drop i = [] := List.drop_eq_nil_of_le (by omega)
      rw [bF (by omega), hd]
      unfold ref13_Raw_j1; simp [enc]
theorem rRaw_eq (F : Nat) (s : Bs) (hF : s.length + 4 < F) (hs : s.length ≤ 1000000) : ref13_Raw F s = some (enc s) := by
  have := rraw_loop F (by omega) s hs F 0 [] (by omega) (by omega) (by simp)
  rw [List.nil_append, List.drop_zero] at this
  exact this
end Go.Hd
namespace Go.Hd
open Go.Pv Go.Av
def num (c : UInt8) : Int := if c = 61 then 0 else Go.Lib.indexByte b64_k1 c
def stp (acc n : Int) (c : UInt8) : Option (Int × Int) :=
  if num c < 0 ∨ (if c = 61 then n - 1 else n) < 1 then none
  else some (IntKind.u64.wrap ((BitVec.ofInt IntKind.u64.bits (IntKind.u64.wrap (acc * 2 ^ min (Int.toNat 6) IntKind.u64.bits)) ||| BitVec.ofInt IntKind.u64.bits (IntKind.u64.wrap (num c))).toNat), (if c = 61 then n - 1 else n))
def g4 (c0 c1 c2 c3 : UInt8) : Option (Int × Int) :=
  match stp 0 3 c0 with
  | none => none
  | some (a, n) => match stp a n c1 with
    | none => none
    | some (a, n) => match stp a n c2 with
      | none => none
      | some (a, n) => stp a n c3
def three (v n : Int) : Bs := to_ ([Go.Av.toB (Int.fdiv v (2 ^ min (Int.toNat 16) IntKind.u64.bits)), Go.Av.toB (Int.fdiv v (2 ^ min (Int.toNat 8) IntKind.u64.bits)), Go.Av.toB v] : Bs) n
theorem fd (v k : Nat) : Int.fdiv (v : Int) ((k : Nat) : Int) = ((v / k : Nat) : Int) := by
  rw [Int.fdiv_eq_ediv_of_nonneg _ (Int.natCast_nonneg _)]; rfl
end Go.Hd
namespace Go.Hd
open Go.Pv Go.Av
end Go.Hd
namespace Go.Hd
open Go.Pv Go.Av
def nameb (c : UInt8) : Bool := ((((decide (97 ≤ (c.toNat : Int))) && (decide ((c.toNat : Int) ≤ 122))) || ((decide (65 ≤ (c.toNat : Int))) && (decide ((c.toNat : Int) ≤ 90)))) || ((decide (48 ≤ (c.toNat : Int))) && (decide ((c.toNat : Int) ≤ 57)))) || (decide (c = 45))
def okb (c : UInt8) : Bool := (decide (32 ≤ (c.toNat : Int))) && (decide ((c.toNat : Int) < 127))
theorem onlyN_loop (F : Nat) (s : Bs) (hs : s.length ≤ 1000000) : ∀ (n i : Nat), s.length - i < n → i ≤ s.length → head_onlyN_L1 F s n (i : Int) = some ((s.drop i).all nameb && !decide (s = [])) := by
  intro n
  induction n with
  | zero => intro i h; omega
  | succ n ih =>
    intro i hn hi
    show head_onlyN_B1 F s (head_onlyN_L1 F s n) (i : Int) = _
    unfold head_onlyN_B1 head_onlyN_j1
    by_cases h : i < s.length
    · have hd : s.drop i = s[i] :: s.drop (i + 1) := List.drop_eq_getElem_cons h
      have hc : head_nameC F s[i] = some (nameb s[i]) := rfl
      rw [bT (by omega), grd_At (by omega), lt_eq, at_nat h, hc, bnd_some, hd, List.all_cons]
      cases hp : nameb s[i] with
      | false => rfl
      | true => rw [Bool.not_true, cond_false, grd_I (by omega), cast_succ, ih (i + 1) (by omega) (by omega), Bool.true_and]
    · rw [bF (by omega), List.drop_eq_nil_of_le (by omega)]; simp
theorem onlyN_eq (F : Nat) (s : Bs) (hs : s.length ≤ 1000000) (hF : s.length < F) : head_onlyN F s = some (s.all nameb && !decide (s = [])) := onlyN_loop F s hs F 0 (by omega) (by omega)
theorem onlyP_loop (F : Nat) (s : Bs) (hs : s.length ≤ 1000000) : ∀ (n i : Nat), s.length - i < n → i ≤ s.length → head_onlyP_L1 F s n (i : Int) = some ((s.drop i).all okb && !decide (s = [])) := by
  intro n
  induction n with
  | zero => intro i h; omega
  | succ n ih =>
    intro i hn hi
    show head_onlyP_B1 F s (head_onlyP_L1 F s n) (i : Int) = _
    unfold head_onlyP_B1 head_onlyP_j1
    by_cases h : i < s.length
    · have hd : s.drop i = s[i] :: s.drop (i + 1) := List.drop_eq_getElem_cons h
      have hc : head_plainC F s[i] = some (okb s[i]) := rfl
      rw [bT (by omega), grd_At (by omega), lt_eq, at_nat h, hc, bnd_some, hd, List.all_cons]
      cases hp : okb s[i] with
      | false => rfl
      | true => rw [Bool.not_true, cond_false, grd_I (by omega), cast_succ, ih (i + 1) (by omega) (by omega), Bool.true_and]
    · rw [bF (by omega), List.drop_eq_nil_of_le (by omega)]; simp
theorem onlyP_eq (F : Nat) (s : Bs) (hs : s.length ≤ 1000000) (hF : s.length < F) : head_onlyP F s = some (s.all okb && !decide (s = [])) := onlyP_loop F s hs F 0 (by omega) (by omega)
def nameB (s : Bs) : Bool := (s.all nameb && !decide (s = [])) && decide (s.length ≤ 40)
theorem name_eq (F : Nat) (s : Bs) (hs : s.length ≤ 1000000) (hF : s.length < F) : head_name F s = some (nameB s) := by
  unfold head_name nameB
  rw [onlyN_eq F s hs hF]
  by_cases h : s.length ≤ 40
  · rw [decide_eq_true (show (s.length : Int) ≤ 40 by omega), decide_eq_true h, bndc_t, bnd_some, Bool.true_and, Bool.and_true]
  · rw [decide_eq_false (show ¬ (s.length : Int) ≤ 40 by omega), decide_eq_false h, bndc_f, Bool.false_and, Bool.and_false]
theorem rname_loop (s : Bs) (hs : s.length ≤ 1000000) : ∀ (n i : Nat), s.length - i < n → i ≤ s.length → ref14_Name_L1 s n (i : Int) = some (bif (s.drop i).all nameb then (decide (1 ≤ (s.length : Int))) && (decide ((s.length : Int) ≤ 40)) else false) := by
  intro n
  induction n with
  | zero => intro i h; omega
  | succ n ih =>
    intro i hn hi
    show ref14_Name_B1 s (ref14_Name_L1 s n) (i : Int) = _
    unfold ref14_Name_B1 ref14_Name_j1
    by_cases h : i < s.length
    · have hd : s.drop i = s[i] :: s.drop (i + 1) := List.drop_eq_getElem_cons h
      rw [bT (by omega), grd_At (by omega), lt_eq, at_nat h, hd, List.all_cons]
      change (bif !(nameb s[i]) then _ else _) = _
      cases hp : nameb s[i] with
      | false => rfl
      | true => rw [Bool.not_true, cond_false, grd_I (by omega), cast_succ, ih (i + 1) (by omega) (by omega), Bool.true_and]
    · rw [bF (by omega), List.drop_eq_nil_of_le (by omega)]; rfl
theorem rname_eq (F : Nat) (s : Bs) (hs : s.length ≤ 1000000) (hF : s.length < F) : ref14_Name F s = some (nameB s) := by
  have := rname_loop s hs F 0 (by omega) (by omega)
  unfold ref14_Name
  refine Eq.trans this ?_
  rw [List.drop_zero]
  unfold nameB
  cases s.all nameb with
  | false => rfl
  | true =>
    rw [cond_true, Bool.true_and]
    congr 1
    by_cases h : s = []
    · subst h; rfl
    · have h1 := List.length_pos_iff.2 h
      rw [decide_eq_false h, decide_eq_true (show 1 ≤ (s.length : Int) by omega), Bool.not_false]
      congr 1
      exact decide_eq_decide.2 (by omega)
def bad (x y : UInt8) : Bool := (x == 32 && y == 32) || (x == 61 && y == 63)
def has2 (p : UInt8 → UInt8 → Bool) : Bs → Bool
  | x :: y :: r => p x y || has2 p (y :: r)
  | _ => false
theorem contains_cons (x : UInt8) (r sub : Bs) : Go.Lib.contains (x :: r) sub = (sub.isPrefixOf (x :: r) || Go.Lib.contains r sub) := by
  unfold Go.Lib.contains
  have hg := Go.Lib.index_ge r sub
  rw [Go.Lib.index]
  cases hp : sub.isPrefixOf (x :: r) with
  | true => simp
  | false =>
    rw [if_neg (by simp), Bool.false_or]
    by_cases h : Go.Lib.index r sub = -1
    · rw [h]; rfl
    · rw [if_neg (by simpa using h)]
      exact decide_eq_decide.2 (by omega)
theorem contains_two (a b : UInt8) : ∀ s : Bs, Go.Lib.contains s [a, b] = has2 (fun x y => x == a && y == b) s
  | [] => rfl
  | [x] => by rw [contains_cons]; simp [has2, List.isPrefixOf, Go.Lib.contains, Go.Lib.index]
  | x :: y :: r => by
    rw [contains_cons, contains_two a b (y :: r), has2]
    simp only [List.isPrefixOf, Bool.and_true]
    rw [Bool.beq_comm (a := x), Bool.beq_comm (a := y)]
theorem has2_or (p q : UInt8 → UInt8 → Bool) : ∀ s : Bs, has2 (fun x y => p x y || q x y) s = (has2 p s || has2 q s)
  | [] => rfl
  | [x] => rfl
  | x :: y :: r => by
    rw [has2, has2, has2, has2_or p q (y :: r)]
    cases p x y <;> cases q x y <;> cases has2 p (y :: r) <;> rfl
theorem dw_len (p : UInt8 → Bool) : ∀ s : Bs, (s.dropWhile p).length ≤ s.length
  | [] => Nat.le_refl _
  | x :: r => by
    rw [List.dropWhile_cons]
    have := dw_len p r
    split
    · simp; omega
    · exact Nat.le_refl _
theorem dw_id (c : UInt8) (s : Bs) : s.dropWhile (· == c) = s ↔ s.head? ≠ some c := by
  cases s with
  | nil => simp
  | cons x r =>
    rw [List.dropWhile_cons]
    have := dw_len (· == c) r
    by_cases h : x = c
    · subst h
      simp only [beq_self_eq_true, if_true, List.head?_cons, ne_eq, not_true_eq_false, iff_false]
      intro he
      rw [he] at this
      simp at this
      omega
    · simp [h]
theorem trim_id (c : UInt8) (s : Bs) : Go.Lib.trimB s c = s ↔ s.head? ≠ some c ∧ s.getLast? ≠ some c := by
  have hr : Go.Lib.trimRightB s c = s ↔ s.getLast? ≠ some c := by
    unfold Go.Lib.trimRightB
    rw [← List.head?_reverse, ← dw_id, ← List.reverse_inj, List.reverse_reverse]
  have hl : (Go.Lib.trimRightB s c).length ≤ s.length := by
    have := dw_len (· == c) s.reverse
    unfold Go.Lib.trimRightB
    simpa using this
  unfold Go.Lib.trimB
  constructor
  · intro h
    have h1 := dw_len (· == c) (Go.Lib.trimRightB s c)
    have h2 : (Go.Lib.trimRightB s c) = s := by
      have e : (Go.Lib.trimRightB s c).length = s.length := by
        have := congrArg List.length h
        unfold Go.Lib.trimLeftB at this
        omega
      have p : Go.Lib.trimRightB s c <+: s := by
        unfold Go.Lib.trimRightB
        rw [← List.reverse_suffix, List.reverse_reverse]
        exact List.dropWhile_suffix _
      exact p.eq_of_length e
    rw [h2] at h
    exact ⟨(dw_id c s).1 h, hr.1 h2⟩
  · intro ⟨h1, h2⟩
    rw [hr.2 h2]
    exact (dw_id c s).2 h1
def plainB (s : Bs) : Bool := (((s.all okb && !decide (s = [])) && (decide (s.head? ≠ some 32) && decide (s.getLast? ≠ some 32))) && !has2 bad s)
theorem Plain_eq (F : Nat) (s : Bs) (hs : s.length ≤ 1000000) (hF : s.length < F) : head_Plain F s = some (plainB s) := by
  unfold head_Plain
  have hS : ∀ (c : Bool) (k : Option Bool), grdc c (okS s.length) k = k := fun c k => by
    rw [show okS s.length = true from decide_eq_true (by omega)]; cases c <;> rfl
  rw [onlyP_eq F s hs hF, bnd_some, hS, lt_eq, hS, lt_eq, hS, lt_eq, contains_two, contains_two]
  have e1 : has2 bad s = (has2 (fun x y => x == 32 && y == 32) s || has2 (fun x y => x == 61 && y == 63) s) := has2_or _ _ s
  have e2 : decide (Go.Lib.trimB s 32 = s) = (decide (s.head? ≠ some 32) && decide (s.getLast? ≠ some 32)) := by
    rw [← Bool.decide_and]; exact decide_eq_decide.2 (trim_id 32 s)
  unfold plainB
  rw [e1, e2, Bool.not_or, Bool.and_assoc _ (!_) (!_)]
def chk (p : Option UInt8) : Bs → Bool
  | [] => true
  | c :: r => okb c && !(match p with | none => false | some x => bad x c) && chk (some c) r
theorem chk_some : ∀ (r : Bs) (p : UInt8), chk (some p) r = (r.all okb && !has2 bad (p :: r))
  | [], p => rfl
  | c :: r, p => by
    rw [chk, chk_some r c, has2, List.all_cons]
    cases okb c <;> cases bad p c <;> cases r.all okb <;> rfl
theorem chk_none (s : Bs) : chk none s = (s.all okb && !has2 bad s) := by
  cases s with
  | nil => rfl
  | cons c r => rw [chk, chk_some, List.all_cons]; cases okb c <;> cases r.all okb <;> rfl
theorem bq (a b : UInt8) : decide (a = b) = (a == b) := by by_cases h : a = b <;> simp [h]
theorem fand (x : Bool) : (false && x) = false := Eq.symm (Eq.symm rfl)
theorem tand (x : Bool) : (true && x) = x := Eq.symm (Eq.symm rfl)
theorem nfl : (!false) = true := Eq.symm (Eq.symm rfl)
theorem ntr : (!true) = false := Eq.symm (Eq.symm rfl)
theorem cfl {α : Type} (a b : α) : (bif false then a else b) = b := Eq.symm (Eq.symm rfl)
theorem ctr {α : Type} (a b : α) : (bif true then a else b) = a := Eq.symm (Eq.symm rfl)
def prev (s : Bs) (i : Nat) : Option UInt8 := if i = 0 then none else s[i - 1]?
theorem rplain_loop (s : Bs) (hs : s.length ≤ 1000000) : ∀ (n i : Nat), s.length - i < n → i ≤ s.length → ref14_Plain_L1 s n (i : Int) = bif chk (prev s i) (s.drop i) then ref14_Plain_j1 s else some false := by
  intro n
  induction n with
  | zero => intro i h; omega
  | succ n ih =>
    intro i hn hi
    show ref14_Plain_B1 s (ref14_Plain_L1 s n) (i : Int) = _
    unfold ref14_Plain_B1
    by_cases h : i < s.length
    · have hd : s.drop i = s[i] :: s.drop (i + 1) := List.drop_eq_getElem_cons h
      have hp : prev s (i + 1) = some s[i] := by simp [prev, h]
      have hA : ∀ (c : Bool) (k : Option Bool), grdc c (okAt (i : Int) s.length) k = k := fun c k => by
        rw [show okAt (i : Int) s.length = true from decide_eq_true (by omega)]; cases c <;> rfl
      have ok1 : okb s[i] = !((decide ((s[i].toNat : Int) < 32)) || (decide (126 < (s[i].toNat : Int)))) := by
        unfold okb
        by_cases h1 : (s[i].toNat : Int) < 32
        · rw [decide_eq_true h1, decide_eq_false (by omega)]; rfl
        · by_cases h2 : 126 < (s[i].toNat : Int)
          · rw [decide_eq_false h1, decide_eq_true h2, decide_eq_false (show ¬ (s[i].toNat : Int) < 127 by omega)]; cases decide (32 ≤ (s[i].toNat : Int)) <;> rfl
          · rw [decide_eq_false h1, decide_eq_false h2, decide_eq_true (show 32 ≤ (s[i].toNat : Int) by omega), decide_eq_true (show (s[i].toNat : Int) < 127 by omega)]; rfl
      rw [bT (by omega), grd_At (by omega), lt_eq, at_nat h, hA, lt_eq, hd]
      unfold chk
      rw [ok1]
      cases hk : (decide ((s[i].toNat : Int) < 32)) || (decide (126 < (s[i].toNat : Int))) with
      | true => rw [ctr, ntr, fand, fand, cfl]
      | false =>
        rw [cfl, hA, lt_eq]
        by_cases h0 : i = 0
        · have d0 : decide ((0 : Int) < (i : Int)) = false := decide_eq_false (by omega)
          have ep : prev s i = none := by unfold prev; rw [if_pos h0]
          simp only [d0, fand, grdc_f, lt_eq, cfl, ep, nfl, tand]
          rw [grd_I (by omega), cast_succ, ih (i + 1) (by omega) (by omega), hp]
        · have d0 : decide ((0 : Int) < (i : Int)) = true := decide_eq_true (by omega)
          have e1 : (i : Int) - 1 = ((i - 1 : Nat) : Int) := by omega
          have ep : prev s i = some s[i - 1] := by simp [prev, h0]
          have hB : ∀ (c : Bool) (k : Option Bool), grdc c (okAt ((i - 1 : Nat) : Int) s.length) k = k := fun c k => by
            rw [show okAt ((i - 1 : Nat) : Int) s.length = true from decide_eq_true (by omega)]; cases c <;> rfl
          have hI : ∀ (c : Bool) (k : Option Bool), grdc c (okI ((i - 1 : Nat) : Int)) k = k := fun c k => by
            rw [show okI ((i - 1 : Nat) : Int) = true from decide_eq_true (by omega)]; cases c <;> rfl
          simp only [e1, d0, tand, hA, hB, hI, lt_eq, ep, nfl, at_nat (show i - 1 < s.length by omega)]
          have hb : (((decide (s[i] = 32)) && (decide (s[i - 1] = 32))) || ((decide (s[i] = 63)) && (decide (s[i - 1] = 61)))) = bad s[i - 1] s[i] := by
            unfold bad
            rw [bq, bq, bq, bq, Bool.and_comm, Bool.and_comm (s[i] == 63)]
          rw [hb]
          cases bad s[i - 1] s[i] with
          | true => rw [ctr, ntr, fand, cfl]
          | false => rw [cfl, grd_I (by omega), cast_succ, ih (i + 1) (by omega) (by omega), hp, nfl, tand]
    · rw [bF (by omega), List.drop_eq_nil_of_le (by omega)]; rfl
theorem rPlain_eq (F : Nat) (s : Bs) (hs : s.length ≤ 1000000) (hF : s.length < F) : ref14_Plain F s = some (plainB s) := by
  have := rplain_loop s hs F 0 (by omega) (by omega)
  unfold ref14_Plain
  refine Eq.trans this ?_
  rw [List.drop_zero, show prev s 0 = none from rfl, chk_none]
  unfold plainB
  by_cases h : s = []
  · subst h; rfl
  · have h1 := List.length_pos_iff.2 h
    have hj : ref14_Plain_j1 s = some (decide (s.head? ≠ some 32) && decide (s.getLast? ≠ some 32)) := by
      have e1 : (s.length : Int) - 1 = ((s.length - 1 : Nat) : Int) := by omega
      have hA : ∀ (c : Bool) (i : Nat) (k : Option Bool), i < s.length → grdc c (okAt (i : Int) s.length) k = k := fun c i k hi => by
        rw [show okAt (i : Int) s.length = true from decide_eq_true (by omega)]; cases c <;> rfl
      have hI : ∀ (c : Bool) (k : Option Bool), grdc c (okI ((s.length - 1 : Nat) : Int)) k = k := fun c k => by
        rw [show okI ((s.length - 1 : Nat) : Int) = true from decide_eq_true (by omega)]; cases c <;> rfl
      unfold ref14_Plain_j1
      rw [show (0 : Int) = ((0 : Nat) : Int) from rfl]
      rw [hA _ 0 _ h1, lt_eq, e1, hI, hA _ (s.length - 1) _ (by omega), lt_eq, at_nat h1, at_nat (by omega), decide_eq_true (show ((0 : Nat) : Int) < s.length by omega), Bool.true_and]
      have x1 : s.head? = some s[0] := by rw [List.head?_eq_getElem?, List.getElem?_eq_getElem h1]
      have x2 : s.getLast? = some s[s.length - 1] := by rw [List.getLast?_eq_getElem?, List.getElem?_eq_getElem (by omega)]
      rw [x1, x2]
      simp
    rw [hj, decide_eq_false h]
    cases s.all okb <;> cases has2 bad s <;> simp
def insb (c : UInt8) : Bool := decide (Go.Av.shr8 c 6 = 2)
theorem insb_eq (c : UInt8) : ((decide ((c.toNat : Int) < 128)) || (decide (191 < (c.toNat : Int)))) = !insb c := by
  have := of_all8 (fun c => ((decide ((c.toNat : Int) < 128)) || (decide (191 < (c.toNat : Int)))) == !insb c) (by decide +kernel) c
  exact eq_of_beq this
def dn (s : Bs) : Nat → Nat
  | 0 => 45
  | k + 1 => bif insb (gb s (42 + k)) then dn s k else 42 + k
theorem gb_at {s : Bs} {i : Nat} (h : i < s.length) : gb s i = s[i] := by simp [gb, h]
theorem part_loop (F : Nat) (s : Bs) (hs : 45 < s.length) : ∀ (n k : Nat), k < n → k ≤ 4 → head_part_L1 F s n ((41 + k : Nat) : Int) = some ((dn s k : Nat) : Int) := by
  intro n
  induction n with
  | zero => intro k h; omega
  | succ n ih =>
    intro k hk h4
    show head_part_B1 F s (head_part_L1 F s n) ((41 + k : Nat) : Int) = _
    unfold head_part_B1
    cases k with
    | zero => rfl
    | succ k =>
      have e : 41 + (k + 1) = 42 + k := by omega
      have hb : head_inside F s[42 + k] = some (insb (gb s (42 + k))) := by rw [gb_at (by omega)]; rfl
      rw [e, decide_eq_true (show (41 : Int) < ((42 + k : Nat) : Int) by omega), grdc_t, grd_At (by omega), lt_eq, at_nat (by omega), hb, bndc_t, bnd_some, Bool.true_and]
      unfold dn
      cases insb (gb s (42 + k)) with
      | true =>
        have e2 : ((42 + k : Nat) : Int) - 1 = ((41 + k : Nat) : Int) := by omega
        rw [cond_true, cond_true, grd_I (by omega), e2, ih k (by omega) (by omega)]
      | false =>
        rw [cond_false, cond_false]
        unfold head_part_j1
        rw [bF (by omega)]
theorem rpart_loop (s : Bs) (hs : 45 < s.length) : ∀ (n k : Nat), k < n → k ≤ 4 → ref14_part_L1 s n ((41 + k : Nat) : Int) = some ((dn s k : Nat) : Int) := by
  intro n
  induction n with
  | zero => intro k h; omega
  | succ n ih =>
    intro k hk h4
    show ref14_part_B1 s (ref14_part_L1 s n) ((41 + k : Nat) : Int) = _
    unfold ref14_part_B1
    cases k with
    | zero => rw [bF (by omega)]; rfl
    | succ k =>
      have e : 41 + (k + 1) = 42 + k := by omega
      have hA : ∀ (c : Bool) (k' : Option Int), grdc c (okAt ((42 + k : Nat) : Int) s.length) k' = k' := fun c k' => by
        rw [show okAt ((42 + k : Nat) : Int) s.length = true from decide_eq_true (by omega)]; cases c <;> rfl
      rw [e, bT (by omega), grd_At (by omega), lt_eq, at_nat (by omega), hA, lt_eq, insb_eq, ← gb_at (show 42 + k < s.length by omega)]
      unfold dn
      cases insb (gb s (42 + k)) with
      | true =>
        have e2 : ((42 + k : Nat) : Int) - 1 = ((41 + k : Nat) : Int) := by omega
        rw [Bool.not_true, cond_false, cond_true, grd_I (by omega), e2, ih k (by omega) (by omega)]
      | false => rfl
def pt (s : Bs) : Nat := if s.length ≤ 45 then s.length else dn s 4
theorem dn_le (s : Bs) : ∀ k, k ≤ 4 → 42 ≤ dn s k ∧ dn s k ≤ 45
  | 0, _ => by simp [dn]
  | k + 1, h => by
    have := dn_le s k (by omega)
    unfold dn
    cases insb (gb s (42 + k)) with
    | true => exact this
    | false => rw [cond_false]; omega
theorem pt_le (s : Bs) : pt s ≤ s.length ∧ pt s ≤ 45 ∧ (s ≠ [] → 1 ≤ pt s) := by
  have := dn_le s 4 (by omega)
  unfold pt
  split
  · exact ⟨Nat.le_refl _, by omega, fun h => List.length_pos_iff.2 h⟩
  · exact ⟨by omega, by omega, fun h => by omega⟩
theorem part_eq (F : Nat) (hF : 5 ≤ F) (s : Bs) : head_part F s = some ((pt s : Nat) : Int) := by
  unfold head_part pt
  by_cases h : s.length ≤ 45
  · rw [bT (by omega), if_pos h]
  · rw [bF (by omega), if_neg h]; exact part_loop F s (by omega) F 4 (by omega) (by omega)
theorem rpart_eq (F : Nat) (hF : 5 ≤ F) (s : Bs) : ref14_part F s = some ((pt s : Nat) : Int) := by
  unfold ref14_part pt
  by_cases h : s.length ≤ 45
  · rw [bT (by omega), if_pos h]
  · rw [bF (by omega), if_neg h]; exact rpart_loop s (by omega) F 4 (by omega) (by omega)
def ahead : Bs := [61, 63, 117, 116, 102, 45, 56, 63, 66, 63]
def behind : Bs := [63, 61]
def word (p : Bs) : Bs := ahead ++ enc p ++ behind
def pcs : Nat → Bs → List Bs
  | 0, _ => []
  | n + 1, s => if s = [] then [] else word (s.take (pt s)) :: pcs n (s.drop (pt s))
theorem pcs_nil (n : Nat) : pcs n [] = [] := by cases n <;> rfl
theorem pcs_more : ∀ (n m : Nat) (s : Bs), s.length ≤ n → s.length ≤ m → pcs n s = pcs m s := by
  intro n
  induction n with
  | zero => intro m s h1 h2; have : s = [] := List.eq_nil_of_length_eq_zero (by omega); subst this; rw [pcs_nil, pcs_nil]
  | succ n ih =>
    intro m s h1 h2
    by_cases h : s = []
    · subst h; rw [pcs_nil, pcs_nil]
    · have hp := pt_le s
      have hl := List.length_pos_iff.2 h
      have h3 := hp.2.2 h
      obtain ⟨m, rfl⟩ : ∃ k, m = k + 1 := ⟨m - 1, by omega⟩
      rw [pcs, pcs, if_neg h, if_neg h, ih m (s.drop (pt s)) (by simp; omega) (by simp; omega)]
def pieces (s : Bs) : List Bs := pcs s.length s
theorem pieces_cons {s : Bs} (h : s ≠ []) : pieces s = word (s.take (pt s)) :: pieces (s.drop (pt s)) := by
  have hp := pt_le s
  have hl := List.length_pos_iff.2 h
  have h3 := hp.2.2 h
  unfold pieces
  obtain ⟨m, hm⟩ : ∃ k, s.length = k + 1 := ⟨s.length - 1, by omega⟩
  rw [hm, pcs, if_neg h, pcs_more m (s.drop (pt s)).length _ (by simp; omega) (by simp)]
theorem pieces_nil : pieces [] = [] := rfl
def wordsOf (s : Bs) : List Bs := bif plainB s then sp 32 s else pieces s
def fold1 {σ : Type} (k : σ → Bs → Option (σ × Bool)) (st : σ) (w : Bs) : Option σ := match k st w with
  | some (st', true) => some st'
  | _ => none
def foldK {σ : Type} (k : σ → Bs → Option (σ × Bool)) : σ → List Bs → Option σ
  | st, [] => some st
  | st, w :: ws => match fold1 k st w with
    | none => none
    | some st' => foldK k st' ws
theorem fold1_s {σ : Type} {k : σ → Bs → Option (σ × Bool)} {st st' : σ} {w : Bs} (h : fold1 k st w = some st') : k st w = some (st', true) := by
  unfold fold1 at h
  split at h
  · rename_i h1; cases h; exact h1
  · cases h
theorem foldK_s {σ : Type} {k : σ → Bs → Option (σ × Bool)} {st st' : σ} {w : Bs} {ws : List Bs} (h : foldK k st (w :: ws) = some st') : ∃ m, k st w = some (m, true) ∧ foldK k m ws = some st' := by
  rw [foldK] at h
  cases hf : fold1 k st w with
  | none => rw [hf] at h; cases h
  | some m => rw [hf] at h; exact ⟨m, fold1_s hf, h⟩
theorem wI_loop {σ : Type} (F : Nat) (k : σ → Bs → Option (σ × Bool)) (hF : 60 ≤ F) : ∀ (n : Nat) (s : Bs) (st st' : σ), s.length < n → s.length ≤ 1000000 → foldK k st (pieces s) = some st' → ∃ r, head_wordsI_L1 F k n (s, st) = some (st', r) := by
  intro n
  induction n with
  | zero => intro s st st' h; omega
  | succ n ih =>
    intro s st st' hn hs H
    have e : head_wordsI_L1 F k (n + 1) (s, st) = head_wordsI_B1 F k (head_wordsI_L1 F k n) s st := rfl
    rw [e]
    unfold head_wordsI_B1
    by_cases h : s = []
    · subst h
      cases H
      exact ⟨[], rfl⟩
    · have hp := pt_le s
      have hl := List.length_pos_iff.2 h
      have h3 := hp.2.2 h
      rw [pieces_cons h] at H
      obtain ⟨m, h1, h2⟩ := foldK_s H
      obtain ⟨r, hr⟩ := ih (s.drop (pt s)) m st' (by simp; omega) (by simp; omega) h2
      refine ⟨r, ?_⟩
      have he := enc_len (s.take (pt s))
      have ht : (s.take (pt s)).length ≤ 45 := by simp; omega
      rw [decide_eq_false h, Bool.not_false, cond_true, part_eq F (by omega), bnd_some, grd_To (by omega), lt_eq, to_nat, grd_Cat (by omega), Raw_eq F _ (by omega) (by omega), bnd_some]
      rw [grd_Cat (by simp; omega), lt_eq, grd_Cat (by simp; omega), lt_eq]
      have hk : k st (([61, 63, 117, 116, 102, 45, 56, 63, 66, 63] : Bs) ++ enc (s.take (pt s)) ++ [63, 61]) = some (m, true) := h1
      rw [hk, bnd2_some, Bool.not_true, cond_false, grd_To (by omega), lt_eq, from_nat]
      exact hr
theorem wS_loop {σ : Type} (a : Bs) (k : σ → Bs → Option (σ × Bool)) (l : List Bs) (hl : l.length ≤ 10000000) : ∀ (n i : Nat) (st st' : σ), l.length - i < n → i ≤ l.length → foldK k st (l.drop i) = some st' → head_wordsI_L2 a k l n ((i : Int), st) = some (st', a) := by
  intro n
  induction n with
  | zero => intro i st st' h; omega
  | succ n ih =>
    intro i st st' hn hi H
    have e : head_wordsI_L2 a k l (n + 1) ((i : Int), st) = head_wordsI_B2 a k l (head_wordsI_L2 a k l n) (i : Int) st := rfl
    rw [e]
    unfold head_wordsI_B2
    by_cases h : i < l.length
    · rw [List.drop_eq_getElem_cons h] at H
      obtain ⟨m, h1, h2⟩ := foldK_s H
      rw [bT (by omega), grd_At (by omega), lt_eq, at_nat h, h1, bnd2_some, Bool.not_true, cond_false, grd_I (by omega), cast_succ]
      exact ih (i + 1) m st' (by omega) (by omega) h2
    · rw [List.drop_eq_nil_of_le (by omega)] at H
      cases H
      rw [bF (by omega)]
theorem wordsI_eq {σ : Type} (F : Nat) (k : σ → Bs → Option (σ × Bool)) (s : Bs) (st st' : σ) (hs : s.length ≤ 1000000) (hF : s.length + 100 < F) (H : foldK k st (wordsOf s) = some st') : ∃ r, head_wordsI F k st s = some (st', r) := by
  unfold head_wordsI
  rw [Plain_eq F s hs (by omega), bnd_some]
  unfold wordsOf at H
  cases hp : plainB s with
  | true =>
    rw [hp, cond_true] at H
    have hl := sp_length 32 s
    rw [cond_true, grd_S (by omega), grd_D (by simp), lt_eq, split_one]
    exact ⟨s, wS_loop s k (sp 32 s) (by omega) F 0 st st' (by omega) (by omega) H⟩
  | false =>
    rw [hp, cond_false] at H
    rw [cond_false]
    exact wI_loop F k (by omega) F s st st' (by omega) hs H
theorem pieces_len (s : Bs) : ∀ n, s.length ≤ n → (pieces s).length ≤ s.length ∧ ∀ w ∈ pieces s, w.length ≤ 104 := by
  intro n
  induction n generalizing s with
  | zero => intro h; have : s = [] := List.eq_nil_of_length_eq_zero (by omega); subst this; simp [pieces_nil]
  | succ n ih =>
    intro h
    by_cases h0 : s = []
    · subst h0; simp [pieces_nil]
    · have hp := pt_le s
      have hl := List.length_pos_iff.2 h0
      have h3 := hp.2.2 h0
      have ⟨i1, i2⟩ := ih (s.drop (pt s)) (by simp; omega)
      have he := enc_len (s.take (pt s))
      have ht : (s.take (pt s)).length ≤ 45 := by simp; omega
      rw [pieces_cons h0]
      refine ⟨by simp at i1 ⊢; omega, fun w hw => ?_⟩
      rcases List.mem_cons.1 hw with rfl | hw
      · simp [word, ahead, behind]; omega
      · exact i2 w hw
theorem mem_total {l : List Bs} {w : Bs} (h : w ∈ l) : w.length ≤ Str.total l := by
  induction l with
  | nil => cases h
  | cons x r ih =>
    rcases List.mem_cons.1 h with rfl | h
    · simp [Str.total]
    · have := ih h; simp [Str.total]; omega
theorem wordsOf_len (s : Bs) : (wordsOf s).length ≤ s.length + 1 ∧ ∀ w ∈ wordsOf s, w.length ≤ s.length + 104 := by
  unfold wordsOf
  cases plainB s with
  | true =>
    rw [cond_true]
    have h1 := sp_total 32 s
    have h2 := sp_length 32 s
    exact ⟨h2, fun w hw => by have := mem_total hw; have := List.length_pos_iff.2 (List.ne_nil_of_mem hw); omega⟩
  | false =>
    rw [cond_false]
    have ⟨h1, h2⟩ := pieces_len s s.length (by omega)
    exact ⟨by omega, fun w hw => by have := h2 w hw; omega⟩
theorem app_fold : ∀ (ws acc : List Bs), acc.length + ws.length ≤ 10000000 → foldK (fun s x => head_AppendSeq_k1 s x) acc ws = some (acc ++ ws)
  | [], acc, h => by rw [foldK, List.append_nil]
  | w :: ws, acc, h => by
    have h1 : fold1 (fun s x => head_AppendSeq_k1 s x) acc w = some (acc ++ [w]) := by
      have hk : head_AppendSeq_k1 acc w = some (acc ++ [w], true) := by
        unfold head_AppendSeq_k1
        simp only [List.length_cons] at h
        rw [grd_Cat (by simp; omega), lt_eq]
      unfold fold1
      simp only [hk]
    rw [foldK, h1]
    have := app_fold ws (acc ++ [w]) (by simp at h ⊢; omega)
    rw [List.append_assoc] at this
    exact this
theorem Words_eq (F : Nat) (s : Bs) (hs : s.length ≤ 1000000) (hF : s.length + 100 < F) : head_Words F s = some (wordsOf s) := by
  have hl := (wordsOf_len s).1
  obtain ⟨r, hr⟩ := wordsI_eq F (fun s x => head_AppendSeq_k1 s x) s [] _ hs hF (app_fold (wordsOf s) [] (by simp; omega))
  unfold head_Words head_Collect head_AppendSeq head_words
  rw [bnd_some, hr]
  rfl
theorem rW_loop (F : Nat) (hF : 200 ≤ F) : ∀ (n : Nat) (s : Bs) (acc : List Bs), s.length < n → acc.length + s.length ≤ 1000000 → ref14_Words_L1 F n (s, acc) = some (acc ++ pieces s) := by
  intro n
  induction n with
  | zero => intro s acc h; omega
  | succ n ih =>
    intro s acc hn hs
    show ref14_Words_B1 F (ref14_Words_L1 F n) s acc = _
    unfold ref14_Words_B1
    by_cases h : s = []
    · subst h; rw [bF (by simp), pieces_nil, List.append_nil]; rfl
    · have hp := pt_le s
      have hl := List.length_pos_iff.2 h
      have h3 := hp.2.2 h
      have he := enc_len (s.take (pt s))
      have ht : (s.take (pt s)).length ≤ 45 := by simp; omega
      rw [bT (by omega), rpart_eq F (by omega), bnd_some, grd_To (by omega), lt_eq, to_nat, grd_Cat (by omega), rRaw_eq F _ (by omega) (by omega), bnd_some]
      rw [grd_Cat (by simp; omega), lt_eq, grd_Cat (by simp; omega), lt_eq, grd_Cat (by simp; omega), lt_eq, grd_To (by omega), lt_eq, from_nat, ih _ _ (by simp; omega) (by simp; omega), pieces_cons h, List.append_assoc]
      rfl
theorem rWords_eq (F : Nat) (s : Bs) (hs : s.length ≤ 1000000) (hF : s.length + 300 < F) : ref14_Words F s = some (wordsOf s) := by
  unfold ref14_Words wordsOf
  rw [rPlain_eq F s hs (by omega), bnd_some]
  cases plainB s with
  | true => rw [cond_true, cond_true, ref05_Split_eq F s 32 hs (by omega), bnd_some]
  | false =>
    rw [cond_false, cond_false]
    have := rW_loop F (by omega) F s [] (by omega) (by simp; omega)
    rw [List.nil_append] at this
    exact this
end Go.Hd
namespace Go.Hd
open Go.Pv Go.Av
def lnStep (st : Int × Bs) (x : Bs) : Int × Bs := if 76 < st.1 + 1 + (x.length : Int) then (0 + 1 + (x.length : Int), st.2 ++ [13, 10] ++ [32] ++ x) else (st.1 + 1 + (x.length : Int), st.2 ++ [32] ++ x)
def lineOf (a b : Bs) : Bs := ((wordsOf b).foldl lnStep (((a.length + 1 : Nat) : Int), a ++ [58])).2 ++ [13, 10]
theorem lnStep_len (st : Int × Bs) (x : Bs) : (lnStep st x).2.length ≤ st.2.length + x.length + 3 := by
  unfold lnStep; split <;> simp <;> omega
theorem lnStep_n (st : Int × Bs) (x : Bs) (h : 0 ≤ st.1) (hx : x.length ≤ 2000000) : 0 ≤ (lnStep st x).1 ∧ (lnStep st x).1 ≤ 2000001 := by
  unfold lnStep; split <;> simp <;> omega
theorem k1_eq (st : Int × Bs) (x : Bs) (h0 : 0 ≤ st.1) (h1 : st.1 ≤ 10000000) (hx : x.length ≤ 2000000) (ho : st.2.length + x.length + 3 ≤ 50000000000) :
    fold1 (fun s x => head_Line_k1 s.1 s.2 x) st x = some (lnStep st x) := by
  have hk : head_Line_k1 st.1 st.2 x = some (lnStep st x, true) := by
    unfold head_Line_k1 head_Line_j2 lnStep
    by_cases h : 76 < st.1 + 1 + (x.length : Int)
    · rw [bT h, if_pos h]
      simp (disch := (first | omega | (simp; omega))) only [grd_I, grd_Cat, lt_eq]
    · rw [bF h, if_neg h]
      simp (disch := (first | omega | (simp; omega))) only [grd_I, grd_Cat, lt_eq]
  unfold fold1
  simp only [hk]
theorem line_fold : ∀ (ws : List Bs) (st : Int × Bs), (∀ w ∈ ws, w.length ≤ 2000000) → 0 ≤ st.1 → st.1 ≤ 10000000 → st.2.length + ws.length * 2000003 ≤ 50000000000 →
    foldK (fun s x => head_Line_k1 s.1 s.2 x) st ws = some (ws.foldl lnStep st) ∧ (ws.foldl lnStep st).2.length ≤ st.2.length + ws.length * 2000003
  | [], st, _, _, _, _ => ⟨rfl, by simp⟩
  | w :: ws, st, hw, h0, h1, hl => by
    have hx := hw w (by simp)
    have hn := lnStep_n st w h0 hx
    have hs := lnStep_len st w
    simp only [List.length_cons] at hl
    have ⟨i1, i2⟩ := line_fold ws (lnStep st w) (fun v hv => hw v (by simp [hv])) hn.1 (by omega) (by omega)
    rw [foldK, k1_eq st w h0 h1 hx (by omega)]
    refine ⟨i1, ?_⟩
    rw [List.foldl_cons, List.length_cons]; omega
def okLine (a b : Bs) : Bool := nameB a && decide (b.length ≤ 4000)
theorem okLine_s {a b : Bs} (h : okLine a b = true) : nameB a = true ∧ b.length ≤ 4000 ∧ a.length ≤ 40 := by
  unfold okLine at h
  rw [Bool.and_eq_true] at h
  refine ⟨h.1, of_decide_eq_true h.2, ?_⟩
  have := h.1
  unfold nameB at this
  rw [Bool.and_eq_true] at this
  exact of_decide_eq_true this.2
theorem lineOf_len (a b : Bs) (h : okLine a b = true) : (lineOf a b).length ≤ 50000000000 ∧ (a.length : Int) + 1 + (wordsOf b).length ≤ 10000 := by
  have ⟨h1, h2, h3⟩ := okLine_s h
  have ⟨w1, w2⟩ := wordsOf_len b
  have := (line_fold (wordsOf b) (((a.length + 1 : Nat) : Int), a ++ [58]) (fun w hw => by have := w2 w hw; omega) (by simp; omega) (by simp; omega) (by simp; omega)).2
  refine ⟨?_, by omega⟩
  unfold lineOf
  simp at this ⊢; omega
theorem Line_eq (F : Nat) (a b : Bs) (ha : a.length ≤ 1000000) (hFa : a.length < F) (hF : 4200 < F) : head_Line F a b = some (if okLine a b = true then (lineOf a b, 0) else ([], 1)) := by
  unfold head_Line head_Line_j1
  rw [name_eq F a ha hFa, bnd_some]
  by_cases h : okLine a b = true
  · have ⟨h1, h2, h3⟩ := okLine_s h
    have ⟨w1, w2⟩ := wordsOf_len b
    have hlen := (lineOf_len a b h).1
    have ⟨f1, f2⟩ := line_fold (wordsOf b) (((a.length + 1 : Nat) : Int), a ++ [58]) (fun w hw => by have := w2 w hw; omega) (by simp; omega) (by simp; omega) (by simp; omega)
    obtain ⟨r, hr⟩ := wordsI_eq F _ b _ _ (by omega) (by omega) f1
    rw [if_pos h, h1, Bool.not_true, Bool.false_or, bF (by omega), grd_Cat (by simp; omega), lt_eq, grd_Cat (by simp; omega)]
    unfold head_words
    rw [bnd_some]
    have e : (((a ++ [58] : Bs).length : Int), a ++ [58]) = (((a.length + 1 : Nat) : Int), a ++ [58]) := by simp
    rw [e, hr, bnd2_some, grd_Cat (by simp at f2 ⊢; omega), lt_eq]
    rfl
  · rw [if_neg h]
    have : ((!nameB a) || (decide (4000 < (b.length : Int)))) = true := by
      unfold okLine at h
      cases hn : nameB a with
      | false => rfl
      | true =>
        rw [hn, Bool.true_and, decide_eq_true_eq] at h
        rw [decide_eq_true (show 4000 < (b.length : Int) by omega)]; rfl
    rw [this, cond_true]
theorem rLine_loop (l : List Bs) (hl : l.length ≤ 100000) (hw : ∀ w ∈ l, w.length ≤ 2000000) : ∀ (n i : Nat) (st : Int × Bs), l.length - i < n → i ≤ l.length → 0 ≤ st.1 → st.1 ≤ 10000000 → st.2.length + (l.length - i) * 2000003 ≤ 50000000000 →
    ref14_Line_L1 l n (st.2, st.1, (i : Int)) = some (((l.drop i).foldl lnStep st).2 ++ [13, 10], 0) := by
  intro n
  induction n with
  | zero => intro i st h; omega
  | succ n ih =>
    intro i st hn hi h0 h1 hb
    show ref14_Line_B1 l (ref14_Line_L1 l n) st.2 st.1 (i : Int) = _
    unfold ref14_Line_B1 ref14_Line_j2 ref14_Line_j1
    by_cases h : i < l.length
    · have hx := hw l[i] (List.getElem_mem h)
      have hs := lnStep_len st l[i]
      have hnn := lnStep_n st l[i] h0 hx
      have hm : (l.length - i) * 2000003 = (l.length - (i + 1)) * 2000003 + 2000003 := by
        rw [show l.length - i = (l.length - (i + 1)) + 1 by omega, Nat.add_mul]
      have := ih (i + 1) (lnStep st l[i]) (by omega) (by omega) hnn.1 (by omega) (by omega)
      rw [List.drop_eq_getElem_cons h, List.foldl_cons, ← this]
      rw [bT (by omega), grd_I (by omega), grd_At (by omega), lt_eq, at_nat h, grd_I (by omega)]
      unfold lnStep
      by_cases hc : 76 < st.1 + 1 + (l[i].length : Int)
      · rw [bT hc, if_pos hc]
        simp (disch := (first | omega | (simp; omega))) only [grd_I, grd_Cat, lt_eq, grd_At, at_nat h, cast_succ, List.append_assoc]
      · rw [bF hc, if_neg hc]
        simp (disch := (first | omega | (simp; omega))) only [grd_I, grd_Cat, lt_eq, grd_At, at_nat h, cast_succ, List.append_assoc]
    · rw [bF (by omega), List.drop_eq_nil_of_le (by omega), grd_Cat (by simp; omega), lt_eq]; rfl
theorem rLine_eq (F : Nat) (a b : Bs) (ha : a.length ≤ 1000000) (hFa : a.length < F) (hF : 4400 < F) : ref14_Line F a b = some (if okLine a b = true then (lineOf a b, 0) else ([], 1)) := by
  unfold ref14_Line
  rw [rname_eq F a ha hFa, bnd_some]
  by_cases h : okLine a b = true
  · have ⟨h1, h2, h3⟩ := okLine_s h
    have ⟨w1, w2⟩ := wordsOf_len b
    rw [if_pos h, h1, Bool.not_true, Bool.false_or, bF (by omega), grd_Cat (by simp; omega), lt_eq, grd_Cat (by simp; omega), rWords_eq F b (by omega) (by omega), bnd_some]
    have := rLine_loop (wordsOf b) (by omega) (fun w hw => by have := w2 w hw; omega) F 0 (((a.length + 1 : Nat) : Int), a ++ [58]) (by omega) (by omega) (by simp; omega) (by simp; omega) (by simp; omega)
    have e : (((a ++ [58] : Bs).length : Int)) = ((a.length + 1 : Nat) : Int) := by simp
    rw [e]
    exact this
  · rw [if_neg h]
    have : ((!nameB a) || (decide (4000 < (b.length : Int)))) = true := by
      unfold okLine at h
      cases hn : nameB a with
      | false => rfl
      | true =>
        rw [hn, Bool.true_and, decide_eq_true_eq] at h
        rw [decide_eq_true (show 4000 < (b.length : Int) by omega)]; rfl
    rw [this, cond_true]
theorem same_loop (l : List Bs) (hl : l.length ≤ 1000000) : ∀ (n i : Nat), l.length - i < n → i ≤ l.length → ref11_Same_L1 l l n (i : Int) = some true := by
  intro n
  induction n with
  | zero => intro i h; omega
  | succ n ih =>
    intro i hn hi
    show ref11_Same_B1 l l (ref11_Same_L1 l l n) (i : Int) = _
    unfold ref11_Same_B1 ref11_Same_j1
    by_cases h : i < l.length
    · rw [bT (by omega), grd_At (by omega), lt_eq, at_nat h, grd_At (by omega), lt_eq, decide_eq_true rfl, Bool.not_true, cond_false, grd_I (by omega), cast_succ, ih (i + 1) (by omega) (by omega)]
    · rw [bF (by omega)]
theorem Same_eq (F : Nat) (l : List Bs) (hl : l.length ≤ 1000000) (hF : l.length < F) : ref11_Same F l l = some true := by
  unfold ref11_Same
  rw [decide_eq_true rfl, Bool.not_true, cond_false]
  exact same_loop l hl F 0 (by omega) (by omega)
theorem few_loop (l : List (Bs × Bs)) (hl : l.length ≤ 1000000) : ∀ (n i : Nat), l.length - i < n → i ≤ l.length → ∃ b, law14_Few_L1 l n (i : Int) = some b ∧ (b = true → ∀ x ∈ l.drop i, x.1.length ≤ 100 ∧ x.2.length ≤ 600) := by
  intro n
  induction n with
  | zero => intro i h; omega
  | succ n ih =>
    intro i hn hi
    show ∃ b, law14_Few_B1 l (law14_Few_L1 l n) (i : Int) = some b ∧ _
    unfold law14_Few_B1 law14_Few_j1
    by_cases h : i < l.length
    · obtain ⟨b, h1, h2⟩ := ih (i + 1) (by omega) (by omega)
      have hA : ∀ (c : Bool) (k : Option Bool), grdc c (okAt (i : Int) l.length) k = k := fun c k => by
        rw [show okAt (i : Int) l.length = true from decide_eq_true (by omega)]; cases c <;> rfl
      rw [bT (by omega), grd_At (by omega), lt_eq, at_nat h, hA, lt_eq, List.drop_eq_getElem_cons h]
      cases hc : (decide (100 < (l[i].1.length : Int))) || (decide (600 < (l[i].2.length : Int))) with
      | true => exact ⟨false, rfl, fun h => by cases h⟩
      | false =>
        rw [Bool.or_eq_false_iff, decide_eq_false_iff_not, decide_eq_false_iff_not] at hc
        refine ⟨b, by rw [cond_false, grd_I (by omega), cast_succ, h1], fun hb x hx => ?_⟩
        rcases List.mem_cons.1 hx with rfl | hx
        · omega
        · exact h2 hb x hx
    · rw [bF (by omega), List.drop_eq_nil_of_le (by omega)]
      exact ⟨true, rfl, fun _ x hx => by cases hx⟩
theorem Few_eq (F : Nat) (l : List (Bs × Bs)) (m : Int) (hl : l.length ≤ 1000000) (hF : l.length < F) : ∃ b, law14_Few F l m = some b ∧ (b = true → (l.length : Int) ≤ m ∧ ∀ x ∈ l, x.1.length ≤ 100 ∧ x.2.length ≤ 600) := by
  unfold law14_Few
  by_cases h : m < (l.length : Int)
  · rw [bT h]; exact ⟨false, rfl, fun h => by cases h⟩
  · rw [bF h]
    obtain ⟨b, h1, h2⟩ := few_loop l hl F 0 (by omega) (by omega)
    exact ⟨b, h1, fun hb => ⟨by omega, by have := h2 hb; rwa [List.drop_zero] at this⟩⟩
end Go.Hd
namespace Go.Hd
open Go.Pv Go.Av
theorem awake_eq : law14_awake 10000 = some true := by decide +kernel
theorem HeadTells_F (F : Nat) (hF : 5000 < F) (hw : law14_awake F = some true) (a b : Bs) : law14_HeadTells F a b = some true := by
  unfold law14_HeadTells
  obtain ⟨f, h1, h2⟩ := Few_eq F [(a, b)] 1 (by simp) (by simp; omega)
  rw [hw, bnd_some, h1, bnd_some]
  cases f with
  | false => rfl
  | true =>
    have ⟨ha, hb⟩ := (h2 rfl).2 (a, b) (by simp)
    have hl := (wordsOf_len b).1
    dsimp only at ha hb
    rw [Bool.not_true, Bool.or_false, cond_false, Line_eq F a b (by omega) (by omega) (by omega), rLine_eq F a b (by omega) (by omega) (by omega), Words_eq F b (by omega) (by omega), rWords_eq F b (by omega) (by omega), rPlain_eq F b (by omega) (by omega)]
    generalize (if okLine a b = true then (lineOf a b, (0 : Int)) else ([], 1)) = r
    obtain ⟨x, y⟩ := r
    rw [bnd2_some, bnd2_some, bnd_some, bnd_some, Same_eq F _ (by omega) (by omega), bnd_some, bnd_some, Plain_eq F b (by omega) (by omega), bndc_some, decide_eq_true rfl, decide_eq_true rfl]
    cases plainB b <;> rfl
theorem HeadTells_t (a b : Bs) : law14_HeadTells 10000 a b = some true := HeadTells_F 10000 (by omega) awake_eq a b
end Go.Hd
namespace Go.Av
open Go.RowKit Go.ChangeShapes Go.WideShapes
section
variable {H : Type} {enc : TypeId × Value → H} {P : Program} {w : World}
def Opens {H : Type} (enc : TypeId × Value → H) (P : Program) (w : World) (t : TypeId) {α : Type} (E : α → List AV) (p : α → Prop) : Prop :=
  ∀ fuel cs d, DataW.trod enc P w 0 (fun _ => true) true fuel t cs = some d → ∃ x, p x ∧ RelL (Info.start w) w (E x) cs
theorem opens_str {t : TypeId} (ht : P.underlying t = some .string) : Opens enc P w t (fun s : List UInt8 => [S s]) (fun s => s.length ≤ maxLen) := by
  intro fuel cs d h
  obtain ⟨s, rfl, _, hw⟩ := DataW.trod_string ht h
  refine ⟨s.data.toList, by simpa using hw, .cons (rel_string _ _ s) .nil⟩
def OpensF {H : Type} (enc : TypeId × Value → H) (P : Program) (w : World) (tot off : Nat) (fs : List Field) {α : Type} (E : α → List AV) (p : α → Prop) : Prop :=
  ∀ (n : Nat) (cs : List Value), cs.length = tot → (∀ f ∈ fs, ∃ d, DataW.trod enc P w 0 (fun _ => true) true n f.type ((cs.drop f.offset).take (P.cellsOf f.type)) = some d) → ∃ x, p x ∧ RelL (Info.start w) w (E x) (cs.drop off)
theorem opensF_nil {tot : Nat} : OpensF enc P w tot tot [] (fun _ : Unit => []) (fun _ => True) := fun n cs hl _ => ⟨(), trivial, by rw [List.drop_eq_nil_of_le (by omega)]; exact .nil⟩
theorem opensF_cons {tot off k : Nat} {f : Field} {fs : List Field} {α β : Type} {E : α → List AV} {p : α → Prop} {F : β → List AV} {q : β → Prop} (ho : f.offset = off) (hk : P.cellsOf f.type = k)
    (h : Opens enc P w f.type E p) (g : OpensF enc P w tot (off + k) fs F q) : OpensF enc P w tot off (f :: fs) (fun x : α × β => E x.1 ++ F x.2) (fun x => p x.1 ∧ q x.2) := by
  intro n cs hl H
  obtain ⟨d, hd⟩ := H f (by simp)
  obtain ⟨x, hx, rx⟩ := h _ _ _ hd
  obtain ⟨y, hy, ry⟩ := g n cs hl fun f' hf' => H f' (by simp [hf'])
  refine ⟨(x, y), ⟨hx, hy⟩, ?_⟩
  rw [ho, hk] at rx
  have := rx.append ry
  rwa [← List.drop_drop, List.take_append_drop] at this
theorem opens_struct {t : TypeId} {fs : Array Field} {tot : Nat} {α : Type} {E : α → List AV} {p : α → Prop} (ht : P.underlying t = some (.struct fs)) (hc : P.cellsOf t = tot) (h : OpensF enc P w tot 0 fs.toList E p) :
    Opens enc P w t E p := by
  intro fuel cs d hd
  obtain ⟨xs, n, _, _, hl, hlen, each⟩ := DataW.trod_struct ht hd
  obtain ⟨x, hx, rx⟩ := h n cs (by omega) fun f hf => by
    obtain ⟨i, hi, rfl⟩ := List.getElem_of_mem hf
    have hi' : i < fs.size := by simpa using hi
    rw [each i _ (by simp [hi'])]
    exact ⟨xs[i]'(by omega), List.getElem?_eq_getElem _⟩
  exact ⟨x, hx, by simpa using rx⟩
theorem open_agg {t : TypeId} {fs : Array Field} {r : Reach} {b0 : Nat} {v : Value} {d : DataW H} {ps : List MemPlace} {α : Type} {E : α → List AV} {p : α → Prop} (ht : P.underlying t = some (.struct fs))
    (hval : Value.okWide P w r b0 t v) (hd : DataW.Trod enc P w 0 (fun _ => true) true t v d ps) (h : Opens enc P w t E p) : ∃ x, p x ∧ Rel (Info.start w) w (.agg (E x)) v := by
  obtain ⟨cs, rfl, _⟩ := okWide_struct ht hval
  obtain ⟨fuel, hf⟩ := hd
  obtain ⟨x, hx, rx⟩ := h _ _ _ hf
  refine ⟨x, hx, ?_⟩
  have := Rel.agg _ _ rx.1 rx.2
  simpa [Value.cells] using this
end
end Go.Av
