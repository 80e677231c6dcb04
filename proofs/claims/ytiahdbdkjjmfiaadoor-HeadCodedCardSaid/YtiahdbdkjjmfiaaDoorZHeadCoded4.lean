/-
  Texts in one (only what HeadCoded needs): HdR, HdW, HdL, HdF, HdV, HdB, HdK, HdCoded.
-/
import Derived.Test.YtiahdbdkjjmfiaaDoorZHeadCoded3
import Derived.Lib.TrimByte
import Derived.Laws.RangeString
import Derived.Laws.RangeAny
set_option linter.unusedVariables false
set_option linter.unusedSimpArgs false
namespace Go.Hd
open Go.Pv Go.Av
def nrL (c : UInt8) : Bs → Nat → Nat
  | [], _ => 0
  | x :: r, i => if x = c then i else nrL c r (i + 1)
def nr (c : UInt8) : Nat := nrL c headr_k1 0
theorem nr_lt (c : UInt8) : nr c < 64 := by
  have := of_all8 (fun c => decide (nr c < 64)) (by decide +kernel) c
  exact of_decide_eq_true this
theorem nr_ch (n : Nat) (h : n < 64) : nr (ch n) = n := by
  have := of_all64 (fun n => decide (nr (ch n) = n)) (by decide +kernel) n h
  exact of_decide_eq_true this
theorem nr_loop (c : UInt8) : ∀ (n i : Nat), 64 - i < n → i ≤ 64 → ref13_number_L1 c n (i : Int) = some ((nrL c (headr_k1.drop i) i : Nat) : Int) := by
  intro n
  induction n with
  | zero => intro i h; omega
  | succ n ih =>
    intro i hn hi
    show ref13_number_B1 c (ref13_number_L1 c n) (i : Int) = _
    unfold ref13_number_B1 ref13_number_j1
    have hl := rk_len
    by_cases h : i < 64
    · have hd : headr_k1.drop i = headr_k1[i]'(by omega) :: headr_k1.drop (i + 1) := List.drop_eq_getElem_cons (by omega)
      rw [bT (by omega), grd_At (by omega), lt_eq, at_nat (by omega), hd]
      unfold nrL
      by_cases hc : headr_k1[i]'(by omega) = c
      · rw [bT hc, if_pos hc]
      · rw [bF hc, if_neg hc, grd_I (by omega), cast_succ, ih (i + 1) (by omega) (by omega)]
    · have hd : headr_k1.drop i = [] := List.drop_eq_nil_of_le (by omega)
      rw [bF (by omega), hd]; rfl
theorem number_eq (F : Nat) (hF : 64 < F) (c : UInt8) : ref13_number F c = some ((nr c : Nat) : Int) := by
  have := nr_loop c F 0 (by omega) (by omega)
  exact this
def v4 (a b c d : UInt8) : Nat := 64 * (64 * (64 * nr a + nr b) + nr c) + nr d
def bytes3 (v : Nat) : Bs := [UInt8.ofNat (v / 65536), UInt8.ofNat (v / 256 % 256), UInt8.ofNat (v % 256)]
def grR : Bs → Bs
  | a :: b :: c :: d :: r => bytes3 (v4 a b c d) ++ grR r
  | _ => []
def strip (s : Bs) (k : Nat) (d : Bs) : Bs := if k ≤ s.length ∧ gb s (s.length - k) = 61 then d.take (d.length - 1) else d
def decR (s : Bs) : Bs := strip s 2 (strip s 1 (grR s))
theorem r_step (F : Nat) (hF : 64 < F) (s out : Bs) (i j v m : Nat) (rec10 : (Bs × Int) → Option (Bs × Int)) (hs : s.length ≤ 1000000) (hi : i + 4 ≤ s.length) (hj : j < i + 4) (hv : v < 16777216) :
    ref13_Bytes_L2 F s out (i : Int) rec10 (m + 1) ((v : Int), (j : Int)) = ref13_Bytes_L2 F s out (i : Int) rec10 m (((64 * v + nr (gb s j) : Nat) : Int), ((j + 1 : Nat) : Int)) := by
  show ref13_Bytes_B2 F s out (i : Int) rec10 (ref13_Bytes_L2 F s out (i : Int) rec10 m) (v : Int) (j : Int) = _
  unfold ref13_Bytes_B2
  have hlt := nr_lt (gb s j)
  have hg : gb s j = s[j]'(by omega) := by simp [gb, show j < s.length by omega]
  rw [grd_I (by omega), bT (by omega), grd_I (by omega), grd_At (by omega), lt_eq, at_nat (by omega), number_eq F hF, bnd_some, ← hg, grd_I (by omega), grd_I (by omega)]
  rfl
theorem r_four (F : Nat) (hF : 64 < F) (s out : Bs) (i m : Nat) (rec10 : (Bs × Int) → Option (Bs × Int)) (hs : s.length ≤ 1000000) (hi : i + 4 ≤ s.length) :
    ref13_Bytes_L2 F s out (i : Int) rec10 (m + 4) (((0 : Nat) : Int), (i : Int)) = ref13_Bytes_L2 F s out (i : Int) rec10 m (((v4 (gb s i) (gb s (i + 1)) (gb s (i + 2)) (gb s (i + 3)) : Nat) : Int), ((i + 4 : Nat) : Int)) := by
  have h0 := nr_lt (gb s i)
  have h1 := nr_lt (gb s (i + 1))
  have h2 := nr_lt (gb s (i + 2))
  refine (r_step F hF s out i i 0 (m + 3) rec10 hs hi (by omega) (by omega)).trans ?_
  refine (r_step F hF s out i (i + 1) (64 * 0 + nr (gb s i)) (m + 2) rec10 hs hi (by omega) (by omega)).trans ?_
  refine (r_step F hF s out i (i + 2) (64 * (64 * 0 + nr (gb s i)) + nr (gb s (i + 1))) (m + 1) rec10 hs hi (by omega) (by omega)).trans ?_
  refine (r_step F hF s out i (i + 3) (64 * (64 * (64 * 0 + nr (gb s i)) + nr (gb s (i + 1))) + nr (gb s (i + 2))) m rec10 hs hi (by omega) (by omega)).trans ?_
  have e : 64 * (64 * (64 * (64 * 0 + nr (gb s i)) + nr (gb s (i + 1))) + nr (gb s (i + 2))) + nr (gb s (i + 3)) = v4 (gb s i) (gb s (i + 1)) (gb s (i + 2)) (gb s (i + 3)) := by unfold v4; omega
  rw [e]
theorem v4_lt (a b c d : UInt8) : v4 a b c d < 16777216 := by
  have h0 := nr_lt a
  have h1 := nr_lt b
  have h2 := nr_lt c
  have h3 := nr_lt d
  unfold v4; omega
theorem toB_n (v : Nat) (h : v < 256) : Go.Av.toB (v : Int) = UInt8.ofNat v := by
  have e : ((v : Int) % 256).toNat = v := by omega
  unfold Go.Av.toB
  rw [e]
theorem gr_drop (s : Bs) (i : Nat) (h : i + 4 ≤ s.length) : grR (s.drop i) = bytes3 (v4 (gb s i) (gb s (i + 1)) (gb s (i + 2)) (gb s (i + 3))) ++ grR (s.drop (i + 4)) := by
  have g : ∀ k, gb s (i + k) = (s.drop i).getD k 0 := by intro k; simp [gb, List.getD]
  have g0 := g 0
  have hl : (s.drop i).length = s.length - i := by simp
  have hd : s.drop (i + 4) = (s.drop i).drop 4 := by simp
  rw [Nat.add_zero] at g0
  rw [g0, g 1, g 2, g 3, hd]
  match hm : s.drop i with
  | a :: b :: c :: d :: r => rfl
  | [a, b, c] => rw [hm] at hl; simp at hl; omega
  | [a, b] => rw [hm] at hl; simp at hl; omega
  | [a] => rw [hm] at hl; simp at hl; omega
  | [] => rw [hm] at hl; simp at hl; omega
theorem rB2 (F : Nat) (s out : Bs) (i : Int) (rec10 : (Bs × Int) → Option (Bs × Int)) (m : Nat) (x : Int × Int) : ref13_Bytes_L2 F s out i rec10 (m + 1) x = ref13_Bytes_B2 F s out i rec10 (ref13_Bytes_L2 F s out i rec10 m) x.1 x.2 := rfl
theorem r_loop (F : Nat) (hF : 64 < F) (s : Bs) (hs : s.length ≤ 1000000) (h4 : s.length % 4 = 0) : ∀ (n i : Nat) (out : Bs), s.length - i < n → i ≤ s.length → i % 4 = 0 → out.length ≤ i → ref13_Bytes_L3 F s n (out, (i : Int)) = ref13_Bytes_j3 F s (out ++ grR (s.drop i)) := by
  intro n
  induction n with
  | zero => intro i out h; omega
  | succ n ih =>
    intro i out hn hi hm ho
    show ref13_Bytes_B3 F s (ref13_Bytes_L3 F s n) out (i : Int) = _
    unfold ref13_Bytes_B3
    by_cases h : i < s.length
    · obtain ⟨m, rfl⟩ : ∃ m, F = m + 5 := ⟨F - 5, by omega⟩
      have hv := v4_lt (gb s i) (gb s (i + 1)) (gb s (i + 2)) (gb s (i + 3))
      rw [bT (by omega)]
      have h3 := r_four (m + 5) hF s out i (m + 1) (ref13_Bytes_L3 (m + 5) s n) hs (by omega)
      refine h3.trans ?_
      rw [gr_drop s i (by omega)]
      generalize v4 (gb s i) (gb s (i + 1)) (gb s (i + 2)) (gb s (i + 3)) = v at hv
      rw [rB2]
      unfold ref13_Bytes_B2 ref13_Bytes_j5 ref13_Bytes_j4
      have a1 : (v : Int) / 65536 = ((v / 65536 : Nat) : Int) := by omega
      have a2 : (v : Int) / 256 % 256 = ((v / 256 % 256 : Nat) : Int) := by omega
      have a3 : (v : Int) % 256 = ((v % 256 : Nat) : Int) := by omega
      have a4 : ((i : Int) + 4) = ((i + 4 : Nat) : Int) := by omega
      rw [grd_I (by omega), bF (by omega), grd_Div (by omega), grd_Div (by omega), grd_Div (by omega), grd_Div (by omega), a1, a2, a3, toB_n _ (by omega), toB_n _ (by omega), toB_n _ (by omega)]
      rw [grd_Cat (by simp; omega), lt_eq, grd_I (by omega), a4, ih _ _ (by omega) (by omega) (by omega) (by simp; omega), List.append_assoc]
      rfl
    · have hd : s.drop i = [] := List.drop_eq_nil_of_le (by omega)
      rw [bF (by omega), hd]
      show _ = ref13_Bytes_j3 F s (out ++ [])
      rw [List.append_nil]
theorem grR_len : ∀ s : Bs, s.length % 4 = 0 → 4 * (grR s).length = 3 * s.length
  | a :: b :: c :: d :: r, h => by
    have ih := grR_len r (by simp at h; omega)
    simp [grR, bytes3]; omega
  | [a, b, c], h => by simp at h
  | [a, b], h => by simp at h
  | [a], h => by simp at h
  | [], h => rfl
theorem strip_len (s d : Bs) (k : Nat) : (strip s k d).length ≤ d.length ∧ d.length ≤ (strip s k d).length + 1 := by
  unfold strip
  split
  · simp; omega
  · omega
theorem s_step (F : Nat) (s d : Bs) (k m : Nat) (hk : 1 ≤ k ∧ k ≤ 2) (hs : s.length ≤ 1000000) (hd : d.length ≤ 1000000) (hd1 : k ≤ s.length → 1 ≤ d.length) :
    ref13_Bytes_L1 F s (m + 1) (d, (k : Int)) = ref13_Bytes_L1 F s m (strip s k d, ((k + 1 : Nat) : Int)) := by
  show ref13_Bytes_B1 F s (ref13_Bytes_L1 F s m) d (k : Int) = _
  unfold ref13_Bytes_B1 ref13_Bytes_j2 strip
  rw [bT (by omega)]
  by_cases h : k ≤ s.length
  · have e : (s.length : Int) - k = ((s.length - k : Nat) : Int) := by omega
    have hg : gb s (s.length - k) = s[s.length - k]'(by omega) := by simp [gb, show s.length - k < s.length by omega]
    rw [decide_eq_true (show (k : Int) ≤ s.length by omega), grdc_t, grd_I (by omega), grdc_t, grd_At (by omega), lt_eq, e, at_nat (by omega), Bool.true_and, hg]
    by_cases hc : s[s.length - k]'(by omega) = 61
    · have e2 : (d.length : Int) - 1 = ((d.length - 1 : Nat) : Int) := by have := hd1 h; omega
      rw [bT hc, if_pos ⟨h, hc⟩, grd_I (by omega), grd_To (by have := hd1 h; omega), lt_eq, e2, to_nat, grd_Cat (by simp; omega), grd_I (by omega)]; rfl
    · rw [bF hc, if_neg (fun x => hc x.2), grd_I (by omega)]; rfl
  · rw [decide_eq_false (show ¬ (k : Int) ≤ s.length by omega), grdc_f, grdc_f, lt_eq, Bool.false_and, cond_false, if_neg (fun x => h x.1), grd_I (by omega)]; rfl
theorem rBytes_dec (F : Nat) (s : Bs) (hs : s.length ≤ 400000) (hF : s.length + 100 < F) : ref13_Bytes F s = if s.length % 4 = 0 then ref13_Bytes_j1 F s (decR s) else some ([], 2) := by
  unfold ref13_Bytes
  rw [grd_Div (by omega)]
  by_cases h : s.length % 4 = 0
  · rw [decide_eq_true (show (s.length : Int) % 4 = 0 by omega), Bool.not_true, cond_false, if_pos h]
    have h2 := r_loop F (by omega) s (by omega) h F 0 [] (by omega) (by omega) rfl (by simp)
    refine h2.trans ?_
    rw [List.nil_append, List.drop_zero]
    obtain ⟨m, rfl⟩ : ∃ m, F = m + 3 := ⟨F - 3, by omega⟩
    have hl := grR_len s h
    have l1 := strip_len s (grR s) 1
    have l2 := strip_len s (strip s 1 (grR s)) 2
    have s1 := s_step (m + 3) s (grR s) 1 (m + 2) (by omega) (by omega) (by omega) (by omega)
    have s2 := s_step (m + 3) s (strip s 1 (grR s)) 2 (m + 1) (by omega) (by omega) (by omega) (by omega)
    show ref13_Bytes_L1 (m + 3) s (m + 3) (grR s, ((1 : Nat) : Int)) = _
    refine (s1.trans s2).trans ?_
    show ref13_Bytes_B1 (m + 3) s (ref13_Bytes_L1 (m + 3) s m) (decR s) ((3 : Nat) : Int) = _
    unfold ref13_Bytes_B1
    rw [bF (by omega)]
  · rw [decide_eq_false (show ¬ (s.length : Int) % 4 = 0 by omega), Bool.not_false, cond_true, if_neg h]
theorem gb_app (p s : Bs) (k : Nat) (hk : 1 ≤ k ∧ k ≤ s.length) : gb (p ++ s) ((p ++ s).length - k) = gb s (s.length - k) := by
  have e : (p ++ s).length - k = p.length + (s.length - k) := by simp; omega
  rw [e]
  unfold gb List.getD
  rw [List.getElem?_append_right (by omega)]
  congr 2; omega
theorem strip_app (p s P d : Bs) (k : Nat) (hk : 1 ≤ k ∧ k ≤ s.length) (hd : 1 ≤ d.length) : strip (p ++ s) k (P ++ d) = P ++ strip s k d := by
  unfold strip
  rw [gb_app p s k hk]
  by_cases h : gb s (s.length - k) = 61
  · rw [if_pos ⟨by simp; omega, h⟩, if_pos ⟨hk.2, h⟩, List.length_append, show P.length + d.length - 1 = P.length + (d.length - 1) by omega, List.take_append, List.take_of_length_le (by omega)]
    congr 2; omega
  · rw [if_neg (fun x => h x.2), if_neg (fun x => h x.2)]
theorem nr_61 : nr 61 = 0 := by decide +kernel
theorem ofN (v : Nat) (b : UInt8) (h : v = b.toNat) : UInt8.ofNat v = b := by rw [h]; simp
theorem b3_q (a b c : UInt8) : bytes3 (q3 a.toNat b.toNat c.toNat) = [a, b, c] := by
  have ha := a.toNat_lt
  have hb := b.toNat_lt
  have hc := c.toNat_lt
  unfold bytes3
  rw [ofN _ a (by unfold q3; omega), ofN _ b (by unfold q3; omega), ofN _ c (by unfold q3; omega)]
theorem v4_full (v : Nat) (h : v < 16777216) : v4 (ch (v / 262144)) (ch (v / 4096 % 64)) (ch (v / 64 % 64)) (ch (v % 64)) = v := by
  unfold v4
  rw [nr_ch _ (by omega), nr_ch _ (by omega), nr_ch _ (by omega), nr_ch _ (by omega)]; omega
theorem v4_two (v : Nat) (h : v < 16777216) (hv : v % 64 = 0) : v4 (ch (v / 262144)) (ch (v / 4096 % 64)) (ch (v / 64 % 64)) 61 = v := by
  unfold v4
  rw [nr_ch _ (by omega), nr_ch _ (by omega), nr_ch _ (by omega), nr_61]; omega
theorem v4_one (v : Nat) (h : v < 16777216) (hv : v % 4096 = 0) : v4 (ch (v / 262144)) (ch (v / 4096 % 64)) 61 61 = v := by
  unfold v4
  rw [nr_ch _ (by omega), nr_ch _ (by omega), nr_61]; omega
theorem enc_len4 : ∀ b : Bs, (enc b).length % 4 = 0
  | a :: b :: c :: r => by
    have := enc_len4 r
    simp [enc, four]; omega
  | [a, b] => by simp [enc, four]
  | [a] => by simp [enc, four]
  | [] => rfl
theorem enc_ne {b : Bs} (h : b ≠ []) : 4 ≤ (enc b).length := by
  match b with
  | a :: b :: c :: r => simp [enc, four]
  | [a, b] => simp [enc, four]
  | [a] => simp [enc, four]
  | [] => exact absurd rfl h
theorem decR_enc : ∀ b : Bs, decR (enc b) = b
  | a :: b :: c :: r => by
    have ih := decR_enc r
    have hq := q3_lt a b c
    by_cases h : r = []
    · subst h
      have e : enc [a, b, c] = four a b c := by simp [enc]
      have g : grR (four a b c) = [a, b, c] := by
        show bytes3 (v4 _ _ _ _) ++ [] = _
        rw [v4_full _ hq, b3_q]; rfl
      have c1 := (num_ch (q3 a.toNat b.toNat c.toNat % 64) (by omega)).2
      have c2 := (num_ch (q3 a.toNat b.toNat c.toNat / 64 % 64) (by omega)).2
      rw [e]
      unfold decR strip
      rw [g, if_neg (fun x => c2 x.2), if_neg (fun x => c1 x.2)]
    · have hl := enc_ne h
      have h4 := enc_len4 r
      have hg := grR_len (enc r) h4
      have l1 := strip_len (enc r) (grR (enc r)) 1
      have g : grR (four a b c ++ enc r) = [a, b, c] ++ grR (enc r) := by
        show bytes3 (v4 _ _ _ _) ++ grR (enc r) = _
        rw [v4_full _ hq, b3_q]
      show decR (four a b c ++ enc r) = _
      unfold decR
      rw [g, strip_app _ _ _ _ 1 (by omega) (by omega), strip_app _ _ _ _ 2 (by omega) (by omega)]
      unfold decR at ih
      rw [ih]; rfl
  | [a, b] => by
    have hq := q3_lt a b 0
    have g : grR (enc [a, b]) = [a, b, 0] := by
      show bytes3 (v4 _ _ _ _) ++ [] = _
      rw [v4_two _ hq (by show q3 _ _ 0 % 64 = 0; unfold q3; omega), b3_q]; rfl
    have c2 := (num_ch (q3 a.toNat b.toNat (0 : UInt8).toNat / 64 % 64) (by omega)).2
    unfold decR strip
    rw [g, if_neg (fun x => c2 x.2), if_pos ⟨by simp [enc, four], rfl⟩]; rfl
  | [a] => by
    have hq := q3_lt a 0 0
    have g : grR (enc [a]) = [a, 0, 0] := by
      show bytes3 (v4 _ _ _ _) ++ [] = _
      rw [v4_one _ hq (by show q3 _ 0 0 % 4096 = 0; unfold q3; omega), b3_q]; rfl
    unfold decR strip
    rw [g, if_pos ⟨by simp [enc, four], rfl⟩, if_pos ⟨by simp [enc, four], rfl⟩]; rfl
  | [] => rfl
theorem decR_len (s : Bs) (h : s.length % 4 = 0) : (decR s).length ≤ s.length := by
  have hg := grR_len s h
  have l1 := strip_len s (grR s) 1
  have l2 := strip_len s (strip s 1 (grR s)) 2
  unfold decR; omega
theorem rBytes_eq (F : Nat) (s : Bs) (hs : s.length ≤ 400000) (hF : s.length + 100 < F) : ref13_Bytes F s = some (dec s) := by
  rw [rBytes_dec F s hs hF]
  by_cases h : s.length % 4 = 0
  · have hl := decR_len s h
    rw [if_pos h]
    unfold ref13_Bytes_j1
    rw [rRaw_eq F _ (by omega) (by omega), bnd_some]
    by_cases he : enc (decR s) = s
    · rw [decide_eq_true he, Bool.not_true, cond_false]
      have := dec_enc (decR s)
      rw [he] at this
      rw [this]
    · rw [decide_eq_false he, Bool.not_false, cond_true, dec_no (fun ⟨b, hb⟩ => by
        apply he; rw [← hb, decR_enc])]
  · rw [if_neg h, dec_no (fun ⟨b, hb⟩ => by apply h; rw [← hb]; exact enc_len4 b)]
end Go.Hd
namespace Go.Hd
open Go.Pv Go.Av
def okb (c : UInt8) : Bool := (decide (32 ≤ (c.toNat : Int))) && (decide ((c.toNat : Int) < 127))
theorem onlyP_loop (F : Nat) (s : Bs) (hs : s.length ≤ 1000000) : ∀ (n i : Nat), s.length - i < n → i ≤ s.length → head_onlyP_L1 F s n (i : Int) = some ((s.drop i).all okb && !decide (s = [])) := by
  intro n
  induction n with
  | zero => intro i h; omega
  | succ n ih =>
    intro i hn hi
    show head_onlyP_B1 F s (head_onlyP_L1 F s n) (i : Int) = _
    unfold head_onlyP_B1 head_onlyP_j1
    by_cases h : i < s.length
    · have hd : s.drop i = s[i] :: s.drop (i + 1) := List.drop_eq_getElem_cons h
      have hc : head_plainC F s[i] = some (okb s[i]) := rfl
      rw [bT (by omega), grd_At (by omega), lt_eq, at_nat h, hc, bnd_some, hd, List.all_cons]
      cases hp : okb s[i] with
      | false => rfl
      | true => rw [Bool.not_true, cond_false, grd_I (by omega), cast_succ, ih (i + 1) (by omega) (by omega), Bool.true_and]
    · rw [bF (by omega), List.drop_eq_nil_of_le (by omega)]; simp
theorem onlyP_eq (F : Nat) (s : Bs) (hs : s.length ≤ 1000000) (hF : s.length < F) : head_onlyP F s = some (s.all okb && !decide (s = [])) := onlyP_loop F s hs F 0 (by omega) (by omega)
def bad (x y : UInt8) : Bool := (x == 32 && y == 32) || (x == 61 && y == 63)
def has2 (p : UInt8 → UInt8 → Bool) : Bs → Bool
  | x :: y :: r => p x y || has2 p (y :: r)
  | _ => false
theorem contains_cons (x : UInt8) (r sub : Bs) : Go.Lib.contains (x :: r) sub = (sub.isPrefixOf (x :: r) || Go.Lib.contains r sub) := by
  unfold Go.Lib.contains
  have hg := Go.Lib.index_ge r sub
  rw [Go.Lib.index]
  cases hp : sub.isPrefixOf (x :: r) with
  | true => simp
  | false =>
    rw [if_neg (by simp), Bool.false_or]
    by_cases h : Go.Lib.index r sub = -1
    · rw [h]; rfl
    · rw [if_neg (by simpa using h)]
      exact decide_eq_decide.2 (by omega)
theorem contains_two (a b : UInt8) : ∀ s : Bs, Go.Lib.contains s [a, b] = has2 (fun x y => x == a && y == b) s
  | [] => rfl
  | [x] => by rw [contains_cons]; simp [has2, List.isPrefixOf, Go.Lib.contains, Go.Lib.index]
  | x :: y :: r => by
    rw [contains_cons, contains_two a b (y :: r), has2]
    simp only [List.isPrefixOf, Bool.and_true]
    rw [Bool.beq_comm (a := x), Bool.beq_comm (a := y)]
theorem has2_or (p q : UInt8 → UInt8 → Bool) : ∀ s : Bs, has2 (fun x y => p x y || q x y) s = (has2 p s || has2 q s)
  | [] => rfl
  | [x] => rfl
  | x :: y :: r => by
    rw [has2, has2, has2, has2_or p q (y :: r)]
    cases p x y <;> cases q x y <;> cases has2 p (y :: r) <;> rfl
theorem dw_len (p : UInt8 → Bool) : ∀ s : Bs, (s.dropWhile p).length ≤ s.length
  | [] => Nat.le_refl _
  | x :: r => by
    rw [List.dropWhile_cons]
    have := dw_len p r
    split
    · simp; omega
    · exact Nat.le_refl _
theorem dw_id (c : UInt8) (s : Bs) : s.dropWhile (· == c) = s ↔ s.head? ≠ some c := by
  cases s with
  | nil => simp
  | cons x r =>
    rw [List.dropWhile_cons]
    have := dw_len (· == c) r
    by_cases h : x = c
    · subst h
      simp only [beq_self_eq_true, if_true, List.head?_cons, ne_eq, not_true_eq_false, iff_false]
      intro he
      rw [he] at this
      simp at this
      omega
    · simp [h]
theorem trim_id (c : UInt8) (s : Bs) : Go.Lib.trimB s c = s ↔ s.head? ≠ some c ∧ s.getLast? ≠ some c := by
  have hr : Go.Lib.trimRightB s c = s ↔ s.getLast? ≠ some c := by
    unfold Go.Lib.trimRightB
    rw [← List.head?_reverse, ← dw_id, ← List.reverse_inj, List.reverse_reverse]
  have hl : (Go.Lib.trimRightB s c).length ≤ s.length := by
    have := dw_len (· == c) s.reverse
    unfold Go.Lib.trimRightB
    simpa using this
  unfold Go.Lib.trimB
  constructor
  · intro h
    have h1 := dw_len (· == c) (Go.Lib.trimRightB s c)
    have h2 : (Go.Lib.trimRightB s c) = s := by
      have e : (Go.Lib.trimRightB s c).length = s.length := by
        have := congrArg List.length h
        unfold Go.Lib.trimLeftB at this
        omega
      have p : Go.Lib.trimRightB s c <+: s := by
        unfold Go.Lib.trimRightB
        rw [← List.reverse_suffix, List.reverse_reverse]
        exact List.dropWhile_suffix _
      exact p.eq_of_length e
    rw [h2] at h
    exact ⟨(dw_id c s).1 h, hr.1 h2⟩
  · intro ⟨h1, h2⟩
    rw [hr.2 h2]
    exact (dw_id c s).2 h1
def plainB (s : Bs) : Bool := (((s.all okb && !decide (s = [])) && (decide (s.head? ≠ some 32) && decide (s.getLast? ≠ some 32))) && !has2 bad s)
theorem Plain_eq (F : Nat) (s : Bs) (hs : s.length ≤ 1000000) (hF : s.length < F) : head_Plain F s = some (plainB s) := by
  unfold head_Plain
  have hS : ∀ (c : Bool) (k : Option Bool), grdc c (okS s.length) k = k := fun c k => by
    rw [show okS s.length = true from decide_eq_true (by omega)]; cases c <;> rfl
  rw [onlyP_eq F s hs hF, bnd_some, hS, lt_eq, hS, lt_eq, hS, lt_eq, contains_two, contains_two]
  have e1 : has2 bad s = (has2 (fun x y => x == 32 && y == 32) s || has2 (fun x y => x == 61 && y == 63) s) := has2_or _ _ s
  have e2 : decide (Go.Lib.trimB s 32 = s) = (decide (s.head? ≠ some 32) && decide (s.getLast? ≠ some 32)) := by
    rw [← Bool.decide_and]; exact decide_eq_decide.2 (trim_id 32 s)
  unfold plainB
  rw [e1, e2, Bool.not_or, Bool.and_assoc _ (!_) (!_)]
theorem fand (x : Bool) : (false && x) = false := Eq.symm (Eq.symm rfl)
theorem tand (x : Bool) : (true && x) = x := Eq.symm (Eq.symm rfl)
theorem nfl : (!false) = true := Eq.symm (Eq.symm rfl)
theorem ntr : (!true) = false := Eq.symm (Eq.symm rfl)
theorem cfl {α : Type} (a b : α) : (bif false then a else b) = b := Eq.symm (Eq.symm rfl)
theorem ctr {α : Type} (a b : α) : (bif true then a else b) = a := Eq.symm (Eq.symm rfl)
def insb (c : UInt8) : Bool := decide (Go.Av.shr8 c 6 = 2)
def dn (s : Bs) : Nat → Nat
  | 0 => 45
  | k + 1 => bif insb (gb s (42 + k)) then dn s k else 42 + k
theorem gb_at {s : Bs} {i : Nat} (h : i < s.length) : gb s i = s[i] := by simp [gb, h]
theorem part_loop (F : Nat) (s : Bs) (hs : 45 < s.length) : ∀ (n k : Nat), k < n → k ≤ 4 → head_part_L1 F s n ((41 + k : Nat) : Int) = some ((dn s k : Nat) : Int) := by
  intro n
  induction n with
  | zero => intro k h; omega
  | succ n ih =>
    intro k hk h4
    show head_part_B1 F s (head_part_L1 F s n) ((41 + k : Nat) : Int) = _
    unfold head_part_B1
    cases k with
    | zero => rfl
    | succ k =>
      have e : 41 + (k + 1) = 42 + k := by omega
      have hb : head_inside F s[42 + k] = some (insb (gb s (42 + k))) := by rw [gb_at (by omega)]; rfl
      rw [e, decide_eq_true (show (41 : Int) < ((42 + k : Nat) : Int) by omega), grdc_t, grd_At (by omega), lt_eq, at_nat (by omega), hb, bndc_t, bnd_some, Bool.true_and]
      unfold dn
      cases insb (gb s (42 + k)) with
      | true =>
        have e2 : ((42 + k : Nat) : Int) - 1 = ((41 + k : Nat) : Int) := by omega
        rw [cond_true, cond_true, grd_I (by omega), e2, ih k (by omega) (by omega)]
      | false =>
        rw [cond_false, cond_false]
        unfold head_part_j1
        rw [bF (by omega)]
def pt (s : Bs) : Nat := if s.length ≤ 45 then s.length else dn s 4
theorem dn_le (s : Bs) : ∀ k, k ≤ 4 → 42 ≤ dn s k ∧ dn s k ≤ 45
  | 0, _ => by simp [dn]
  | k + 1, h => by
    have := dn_le s k (by omega)
    unfold dn
    cases insb (gb s (42 + k)) with
    | true => exact this
    | false => rw [cond_false]; omega
theorem pt_le (s : Bs) : pt s ≤ s.length ∧ pt s ≤ 45 ∧ (s ≠ [] → 1 ≤ pt s) := by
  have := dn_le s 4 (by omega)
  unfold pt
  split
  · exact ⟨Nat.le_refl _, by omega, fun h => List.length_pos_iff.2 h⟩
  · exact ⟨by omega, by omega, fun h => by omega⟩
theorem part_eq (F : Nat) (hF : 5 ≤ F) (s : Bs) : head_part F s = some ((pt s : Nat) : Int) := by
  unfold head_part pt
  by_cases h : s.length ≤ 45
  · rw [bT (by omega), if_pos h]
  · rw [bF (by omega), if_neg h]; exact part_loop F s (by omega) F 4 (by omega) (by omega)
def ahead : Bs := [61, 63, 117, 116, 102, 45, 56, 63, 66, 63]
def behind : Bs := [63, 61]
def word (p : Bs) : Bs := ahead ++ enc p ++ behind
def pcs : Nat → Bs → List Bs
  | 0, _ => []
  | n + 1, s => if s = [] then [] else word (s.take (pt s)) :: pcs n (s.drop (pt s))
theorem pcs_nil (n : Nat) : pcs n [] = [] := by cases n <;> rfl
theorem pcs_more : ∀ (n m : Nat) (s : Bs), s.length ≤ n → s.length ≤ m → pcs n s = pcs m s := by
  intro n
  induction n with
  | zero => intro m s h1 h2; have : s = [] := List.eq_nil_of_length_eq_zero (by omega); subst this; rw [pcs_nil, pcs_nil]
  | succ n ih =>
    intro m s h1 h2
    by_cases h : s = []
    · subst h; rw [pcs_nil, pcs_nil]
    · have hp := pt_le s
      have hl := List.length_pos_iff.2 h
      have h3 := hp.2.2 h
      obtain ⟨m, rfl⟩ : ∃ k, m = k + 1 := ⟨m - 1, by omega⟩
      rw [pcs, pcs, if_neg h, if_neg h, ih m (s.drop (pt s)) (by simp; omega) (by simp; omega)]
def pieces (s : Bs) : List Bs := pcs s.length s
theorem pieces_cons {s : Bs} (h : s ≠ []) : pieces s = word (s.take (pt s)) :: pieces (s.drop (pt s)) := by
  have hp := pt_le s
  have hl := List.length_pos_iff.2 h
  have h3 := hp.2.2 h
  unfold pieces
  obtain ⟨m, hm⟩ : ∃ k, s.length = k + 1 := ⟨s.length - 1, by omega⟩
  rw [hm, pcs, if_neg h, pcs_more m (s.drop (pt s)).length _ (by simp; omega) (by simp)]
theorem pieces_nil : pieces [] = [] := rfl
def wordsOf (s : Bs) : List Bs := bif plainB s then sp 32 s else pieces s
def fold1 {σ : Type} (k : σ → Bs → Option (σ × Bool)) (st : σ) (w : Bs) : Option σ := match k st w with
  | some (st', true) => some st'
  | _ => none
def foldK {σ : Type} (k : σ → Bs → Option (σ × Bool)) : σ → List Bs → Option σ
  | st, [] => some st
  | st, w :: ws => match fold1 k st w with
    | none => none
    | some st' => foldK k st' ws
theorem fold1_s {σ : Type} {k : σ → Bs → Option (σ × Bool)} {st st' : σ} {w : Bs} (h : fold1 k st w = some st') : k st w = some (st', true) := by
  unfold fold1 at h
  split at h
  · rename_i h1; cases h; exact h1
  · cases h
theorem foldK_s {σ : Type} {k : σ → Bs → Option (σ × Bool)} {st st' : σ} {w : Bs} {ws : List Bs} (h : foldK k st (w :: ws) = some st') : ∃ m, k st w = some (m, true) ∧ foldK k m ws = some st' := by
  rw [foldK] at h
  cases hf : fold1 k st w with
  | none => rw [hf] at h; cases h
  | some m => rw [hf] at h; exact ⟨m, fold1_s hf, h⟩
theorem wI_loop {σ : Type} (F : Nat) (k : σ → Bs → Option (σ × Bool)) (hF : 60 ≤ F) : ∀ (n : Nat) (s : Bs) (st st' : σ), s.length < n → s.length ≤ 1000000 → foldK k st (pieces s) = some st' → ∃ r, head_wordsI_L1 F k n (s, st) = some (st', r) := by
  intro n
  induction n with
  | zero => intro s st st' h; omega
  | succ n ih =>
    intro s st st' hn hs H
    have e : head_wordsI_L1 F k (n + 1) (s, st) = head_wordsI_B1 F k (head_wordsI_L1 F k n) s st := rfl
    rw [e]
    unfold head_wordsI_B1
    by_cases h : s = []
    · subst h
      cases H
      exact ⟨[], rfl⟩
    · have hp := pt_le s
      have hl := List.length_pos_iff.2 h
      have h3 := hp.2.2 h
      rw [pieces_cons h] at H
      obtain ⟨m, h1, h2⟩ := foldK_s H
      obtain ⟨r, hr⟩ := ih (s.drop (pt s)) m st' (by simp; omega) (by simp; omega) h2
      refine ⟨r, ?_⟩
      have he := enc_len (s.take (pt s))
      have ht : (s.take (pt s)).length ≤ 45 := by simp; omega
      rw [decide_eq_false h, Bool.not_false, cond_true, part_eq F (by omega), bnd_some, grd_To (by omega), lt_eq, to_nat, grd_Cat (by omega), Raw_eq F _ (by omega) (by omega), bnd_some]
      rw [grd_Cat (by simp; omega), lt_eq, grd_Cat (by simp; omega), lt_eq]
      have hk : k st (([61, 63, 117, 116, 102, 45, 56, 63, 66, 63] : Bs) ++ enc (s.take (pt s)) ++ [63, 61]) = some (m, true) := h1
      rw [hk, bnd2_some, Bool.not_true, cond_false, grd_To (by omega), lt_eq, from_nat]
      exact hr
theorem wS_loop {σ : Type} (a : Bs) (k : σ → Bs → Option (σ × Bool)) (l : List Bs) (hl : l.length ≤ 10000000) : ∀ (n i : Nat) (st st' : σ), l.length - i < n → i ≤ l.length → foldK k st (l.drop i) = some st' → head_wordsI_L2 a k l n ((i : Int), st) = some (st', a) := by
  intro n
  induction n with
  | zero => intro i st st' h; omega
  | succ n ih =>
    intro i st st' hn hi H
    have e : head_wordsI_L2 a k l (n + 1) ((i : Int), st) = head_wordsI_B2 a k l (head_wordsI_L2 a k l n) (i : Int) st := rfl
    rw [e]
    unfold head_wordsI_B2
    by_cases h : i < l.length
    · rw [List.drop_eq_getElem_cons h] at H
      obtain ⟨m, h1, h2⟩ := foldK_s H
      rw [bT (by omega), grd_At (by omega), lt_eq, at_nat h, h1, bnd2_some, Bool.not_true, cond_false, grd_I (by omega), cast_succ]
      exact ih (i + 1) m st' (by omega) (by omega) h2
    · rw [List.drop_eq_nil_of_le (by omega)] at H
      cases H
      rw [bF (by omega)]
theorem wordsI_eq {σ : Type} (F : Nat) (k : σ → Bs → Option (σ × Bool)) (s : Bs) (st st' : σ) (hs : s.length ≤ 1000000) (hF : s.length + 100 < F) (H : foldK k st (wordsOf s) = some st') : ∃ r, head_wordsI F k st s = some (st', r) := by
  unfold head_wordsI
  rw [Plain_eq F s hs (by omega), bnd_some]
  unfold wordsOf at H
  cases hp : plainB s with
  | true =>
    rw [hp, cond_true] at H
    have hl := sp_length 32 s
    rw [cond_true, grd_S (by omega), grd_D (by simp), lt_eq, split_one]
    exact ⟨s, wS_loop s k (sp 32 s) (by omega) F 0 st st' (by omega) (by omega) H⟩
  | false =>
    rw [hp, cond_false] at H
    rw [cond_false]
    exact wI_loop F k (by omega) F s st st' (by omega) hs H
theorem pieces_len (s : Bs) : ∀ n, s.length ≤ n → (pieces s).length ≤ s.length ∧ ∀ w ∈ pieces s, w.length ≤ 104 := by
  intro n
  induction n generalizing s with
  | zero => intro h; have : s = [] := List.eq_nil_of_length_eq_zero (by omega); subst this; simp [pieces_nil]
  | succ n ih =>
    intro h
    by_cases h0 : s = []
    · subst h0; simp [pieces_nil]
    · have hp := pt_le s
      have hl := List.length_pos_iff.2 h0
      have h3 := hp.2.2 h0
      have ⟨i1, i2⟩ := ih (s.drop (pt s)) (by simp; omega)
      have he := enc_len (s.take (pt s))
      have ht : (s.take (pt s)).length ≤ 45 := by simp; omega
      rw [pieces_cons h0]
      refine ⟨by simp at i1 ⊢; omega, fun w hw => ?_⟩
      rcases List.mem_cons.1 hw with rfl | hw
      · simp [word, ahead, behind]; omega
      · exact i2 w hw
theorem mem_total {l : List Bs} {w : Bs} (h : w ∈ l) : w.length ≤ Str.total l := by
  induction l with
  | nil => cases h
  | cons x r ih =>
    rcases List.mem_cons.1 h with rfl | h
    · simp [Str.total]
    · have := ih h; simp [Str.total]; omega
theorem wordsOf_len (s : Bs) : (wordsOf s).length ≤ s.length + 1 ∧ ∀ w ∈ wordsOf s, w.length ≤ s.length + 104 := by
  unfold wordsOf
  cases plainB s with
  | true =>
    rw [cond_true]
    have h1 := sp_total 32 s
    have h2 := sp_length 32 s
    exact ⟨h2, fun w hw => by have := mem_total hw; have := List.length_pos_iff.2 (List.ne_nil_of_mem hw); omega⟩
  | false =>
    rw [cond_false]
    have ⟨h1, h2⟩ := pieces_len s s.length (by omega)
    exact ⟨by omega, fun w hw => by have := h2 w hw; omega⟩
theorem app_fold : ∀ (ws acc : List Bs), acc.length + ws.length ≤ 10000000 → foldK (fun s x => head_AppendSeq_k1 s x) acc ws = some (acc ++ ws)
  | [], acc, h => by rw [foldK, List.append_nil]
  | w :: ws, acc, h => by
    have h1 : fold1 (fun s x => head_AppendSeq_k1 s x) acc w = some (acc ++ [w]) := by
      have hk : head_AppendSeq_k1 acc w = some (acc ++ [w], true) := by
        unfold head_AppendSeq_k1
        simp only [List.length_cons] at h
        rw [grd_Cat (by simp; omega), lt_eq]
      unfold fold1
      simp only [hk]
    rw [foldK, h1]
    have := app_fold ws (acc ++ [w]) (by simp at h ⊢; omega)
    rw [List.append_assoc] at this
    exact this
theorem Words_eq (F : Nat) (s : Bs) (hs : s.length ≤ 1000000) (hF : s.length + 100 < F) : head_Words F s = some (wordsOf s) := by
  have hl := (wordsOf_len s).1
  obtain ⟨r, hr⟩ := wordsI_eq F (fun s x => head_AppendSeq_k1 s x) s [] _ hs hF (app_fold (wordsOf s) [] (by simp; omega))
  unfold head_Words head_Collect head_AppendSeq head_words
  rw [bnd_some, hr]
  rfl
end Go.Hd
namespace Go.Hd
open Go.Pv Go.Av
def isCoded (w : Bs) : Bool := decide (12 ≤ w.length) && (decide (w.take 10 = ahead) && decide (w.drop (w.length - 2) = behind))
def mid (w : Bs) : Bs := (w.take (w.length - 2)).drop 10
end Go.Hd
namespace Go.Hd
open Go.Pv Go.Av
theorem isCoded_word (p : Bs) : isCoded (word p) = true ∧ mid (word p) = enc p := by
  have hal : ahead.length = 10 := rfl
  have hbl : behind.length = 2 := rfl
  have hl : (word p).length = 12 + (enc p).length := by unfold word; simp [hal, hbl]; omega
  refine ⟨?_, ?_⟩
  · unfold isCoded
    have h1 : (word p).take 10 = ahead := by unfold word; rw [List.append_assoc, List.take_left' hal]
    have h2 : (word p).drop ((word p).length - 2) = behind := by
      rw [hl]; unfold word; rw [List.drop_left' (by simp [hal]; omega)]
    rw [decide_eq_true h1, decide_eq_true h2, decide_eq_true (by omega)]; rfl
  · unfold mid
    rw [hl]
    unfold word
    rw [List.take_left' (by simp [hal]; omega), List.drop_left' hal]
theorem has2_tail {p : UInt8 → UInt8 → Bool} {c : UInt8} {r : Bs} (h : has2 p (c :: r) = false) : has2 p r = false := by
  cases r with
  | nil => rfl
  | cons d r => rw [has2, Bool.or_eq_false_iff] at h; exact h.2
end Go.Hd
namespace Go.Hd
open Go.Pv Go.Av
theorem awake_eq : law14_awake 300000 = some true := by decide +kernel
theorem enc_len3 : ∀ s : Bs, (enc s).length = 4 * ((s.length + 2) / 3)
  | a :: b :: c :: r => by
    have := enc_len3 r
    simp [enc, four]; omega
  | [a, b] => by simp [enc, four]
  | [a] => by simp [enc, four]
  | [] => rfl
def lone (y : Bs) : Prop := has2 (fun a b => insb a && insb b) y = false
theorem has2_at {p : UInt8 → UInt8 → Bool} : ∀ {y : Bs} {i : Nat}, has2 p y = false → i + 1 < y.length → p (gb y i) (gb y (i + 1)) = false
  | [], i, h, hi => by simp at hi
  | [x], i, h, hi => by simp at hi
  | x :: z :: r, 0, h, hi => by rw [has2, Bool.or_eq_false_iff] at h; exact h.1
  | x :: z :: r, i + 1, h, hi => has2_at (y := z :: r) (i := i) (has2_tail h) (by simpa using hi)
theorem has2_drop {p : UInt8 → UInt8 → Bool} : ∀ (y : Bs) (i : Nat), has2 p y = false → has2 p (y.drop i) = false
  | y, 0, h => h
  | [], i + 1, h => rfl
  | x :: r, i + 1, h => has2_drop r i (has2_tail h)
theorem pt_at {s : Bs} (h : lone s) (hl : 45 < s.length) : insb (gb s (pt s)) = false := by
  have e : pt s = dn s 4 := by unfold pt; rw [if_neg (by omega)]
  rw [e]
  unfold dn
  cases h45 : insb (gb s (42 + 3)) with
  | false => rw [cfl]; exact h45
  | true =>
    rw [ctr]
    unfold dn
    have := has2_at h (show 44 + 1 < s.length by omega)
    rw [Bool.and_eq_false_iff] at this
    have h44 : insb (gb s (42 + 2)) = false := by
      rcases this with h | h
      · exact h
      · rw [show (44 + 1) = 42 + 3 from rfl, h45] at h; cases h
    rw [h44, cfl]; exact h44
theorem insb_169 : insb 169 = true := by decide +kernel
theorem c_loop (F : Nat) (y : Bs) (hF : 1000 < F) (hy : y.length ≤ 10000) (hn : lone y) : ∀ (n i t : Nat) (ws : List Bs), ws.length - i < n → i ≤ ws.length → ws.length ≤ 20000 → t ≤ y.length → ws.drop i = pieces (y.drop t) →
    law14_HeadCoded_L1 F y ws n ((t : Int), (i : Int)) = some true := by
  intro n
  induction n with
  | zero => intro i t ws h; omega
  | succ n ih =>
    intro i t ws hk hi hw ht he
    show law14_HeadCoded_B1 F y ws (law14_HeadCoded_L1 F y ws n) (t : Int) (i : Int) = _
    unfold law14_HeadCoded_B1 law14_HeadCoded_j1
    have hdl : (y.drop t).length = y.length - t := by simp
    by_cases h : i < ws.length
    · have hd : ws.drop i = ws[i] :: ws.drop (i + 1) := List.drop_eq_getElem_cons h
      have hne : y.drop t ≠ [] := fun e => by rw [e, pieces_nil, hd] at he; cases he
      rw [hd, pieces_cons hne] at he
      have hwi : ws[i] = word ((y.drop t).take (pt (y.drop t))) := (List.cons.inj he).1
      have hrest : ws.drop (i + 1) = pieces (y.drop (t + pt (y.drop t))) := by
        have := (List.cons.inj he).2
        rw [List.drop_drop] at this
        exact this
      have hp := pt_le (y.drop t)
      have hp1 := hp.2.2 hne
      have hpl : ((y.drop t).take (pt (y.drop t))).length = pt (y.drop t) := by simp; omega
      have hel := enc_len3 ((y.drop t).take (pt (y.drop t)))
      rw [hpl] at hel
      have hwl : ws[i].length = 12 + (enc ((y.drop t).take (pt (y.drop t)))).length := by rw [hwi]; unfold word; simp [ahead, behind]; omega
      have hm : mid ws[i] = enc ((y.drop t).take (pt (y.drop t))) := by rw [hwi]; exact (isCoded_word _).2
      have e2 : (ws[i].length : Int) - 2 = ((ws[i].length - 2 : Nat) : Int) := by omega
      have e3 : sub ws[i] 10 ((ws[i].length - 2 : Nat) : Int) = mid ws[i] := sub_nat (i := 10)
      rw [bT (by omega), grd_At (by omega), lt_eq, at_nat h, decide_eq_false (show ¬ (ws[i].length : Int) < 12 by omega), nfl, grdc_t, grd_At (by omega), lt_eq, Bool.false_or, bF (by omega), grd_At (by omega), lt_eq, grd_At (by omega), lt_eq, grd_I (by omega), e2, grd_Sub (by omega), lt_eq, e3, hm, rBytes_eq F _ (by omega) (by omega), dec_enc, bnd2_some]
      have hpos : ¬ ((((y.drop t).take (pt (y.drop t))).length : Int) = 0) := by omega
      rw [decide_eq_true rfl, ntr, decide_eq_false hpos, Bool.false_or, nfl, tand, hpl]
      have e4 : (t : Int) + (pt (y.drop t) : Int) = ((t + pt (y.drop t) : Nat) : Int) := by omega
      rw [e4, grd_I (by omega)]
      by_cases hin : t + pt (y.drop t) < y.length
      · have hc := pt_at (s := y.drop t) (has2_drop y t hn) (by
          rw [hdl]
          by_cases h45 : (y.drop t).length ≤ 45
          · have : pt (y.drop t) = (y.drop t).length := by unfold pt; rw [if_pos h45]
            omega
          · omega)
        have hg : gb (y.drop t) (pt (y.drop t)) = y[t + pt (y.drop t)] := by rw [gb_at (by omega), List.getElem_drop]
        rw [hg] at hc
        have hn9 : ¬ y[t + pt (y.drop t)] = 169 := fun e => by rw [e, insb_169] at hc; cases hc
        rw [decide_eq_true (show ((t + pt (y.drop t) : Nat) : Int) < y.length by omega), grdc_t, grd_At (by omega), lt_eq, at_nat hin, decide_eq_false hn9, tand, Bool.false_or, cfl, grd_I (by omega), cast_succ]
        exact ih (i + 1) (t + pt (y.drop t)) ws (by omega) (by omega) hw (by omega) hrest
      · rw [decide_eq_false (show ¬ ((t + pt (y.drop t) : Nat) : Int) < y.length by omega), grdc_f, lt_eq, fand, Bool.false_or, cfl, grd_I (by omega), cast_succ]
        exact ih (i + 1) (t + pt (y.drop t)) ws (by omega) (by omega) hw (by omega) hrest
    · have hd : ws.drop i = [] := List.drop_eq_nil_of_le (by omega)
      have hz : y.drop t = [] := Classical.byContradiction fun hne => by rw [hd, pieces_cons hne] at he; cases he
      have : t = y.length := by rw [hz] at hdl; simp at hdl; omega
      rw [bF (by omega), this]; simp
def tx (k m : Nat) : Bs := List.replicate k 97 ++ (List.replicate m ([195, 169] : Bs)).flatten
theorem tx_len (k m : Nat) : (tx k m).length = k + 2 * m := by
  unfold tx
  rw [List.length_append, List.length_replicate]
  congr 1
  induction m with
  | zero => rfl
  | succ m ih => rw [List.replicate_succ, List.flatten_cons, List.length_append, ih]; simp; omega
theorem lone_e (m : Nat) : lone (List.replicate m ([195, 169] : Bs)).flatten ∧ ∀ c, insb c = false → lone (c :: (List.replicate m ([195, 169] : Bs)).flatten) := by
  induction m with
  | zero => exact ⟨rfl, fun c hc => rfl⟩
  | succ m ih =>
    have e : (List.replicate (m + 1) ([195, 169] : Bs)).flatten = 195 :: 169 :: (List.replicate m ([195, 169] : Bs)).flatten := by rw [List.replicate_succ, List.flatten_cons]; rfl
    have h195 : insb 195 = false := by decide +kernel
    have h : lone (169 :: (List.replicate m ([195, 169] : Bs)).flatten) := by
      unfold lone
      cases m with
      | zero => rfl
      | succ m =>
        have e : (List.replicate (m + 1) ([195, 169] : Bs)).flatten = 195 :: 169 :: (List.replicate m ([195, 169] : Bs)).flatten := by rw [List.replicate_succ, List.flatten_cons]; rfl
        rw [e, has2, h195, Bool.and_false, Bool.false_or, ← e]
        exact ih.1
    have h2 : lone (195 :: 169 :: (List.replicate m ([195, 169] : Bs)).flatten) := by
      unfold lone
      rw [has2, h195, fand, Bool.false_or]; exact h
    rw [e]
    refine ⟨h2, fun c hc => ?_⟩
    unfold lone
    rw [has2, hc, fand, Bool.false_or]; exact h2
theorem tx_lone (k m : Nat) : lone (tx k m) := by
  have h97 : insb 97 = false := by decide +kernel
  unfold tx
  induction k with
  | zero => exact (lone_e m).1
  | succ k ih =>
    rw [List.replicate_succ, List.cons_append]
    cases k with
    | zero => exact (lone_e m).2 97 h97
    | succ k =>
      rw [List.replicate_succ, List.cons_append] at ih ⊢
      unfold lone
      rw [has2, h97, fand, Bool.false_or]; exact ih
theorem tx_plain (k m : Nat) (hm : 1 ≤ m) : plainB (tx k m) = false := by
  have : (tx k m).all okb = false := by
    obtain ⟨m, rfl⟩ : ∃ j, m = j + 1 := ⟨m - 1, by omega⟩
    unfold tx
    rw [List.all_append, List.replicate_succ, List.flatten_cons, List.all_append]
    have : ([195, 169] : Bs).all okb = false := by decide +kernel
    rw [this, fand, Bool.and_false]
  unfold plainB
  rw [this]; rfl
theorem j2_eq (F : Nat) (hF : 20000 < F) (k m : Nat) (hk : k ≤ 50) (hm1 : 1 ≤ m) (hm : m ≤ 100) : law14_HeadCoded_j2 F (tx k m) = some true := by
  have hl := tx_len k m
  have hpl := (pieces_len (tx k m) (tx k m).length (by omega)).1
  unfold law14_HeadCoded_j2
  rw [Words_eq F _ (by omega) (by omega), bnd_some]
  have e : wordsOf (tx k m) = pieces (tx k m) := by unfold wordsOf; rw [tx_plain k m hm1, cfl]
  rw [e]
  exact c_loop F (tx k m) (by omega) (by omega) (tx_lone k m) F 0 0 (pieces (tx k m)) (by omega) (by omega) (by omega) (by omega) rfl
theorem e_loop (F : Nat) (hF : 20000 < F) (k m : Nat) (hk : k ≤ 50) (hm1 : 1 ≤ m) (hm : m ≤ 100) : ∀ (n i : Nat), m - i < n → i ≤ m → law14_HeadCoded_L2 F (m : Int) n (tx k i, (i : Int)) = some true := by
  intro n
  induction n with
  | zero => intro i h; omega
  | succ n ih =>
    intro i hn hi
    have hl := tx_len k i
    show law14_HeadCoded_B2 F (m : Int) (law14_HeadCoded_L2 F (m : Int) n) (tx k i) (i : Int) = _
    unfold law14_HeadCoded_B2
    by_cases h : i < m
    · have e : tx k i ++ ([195, 169] : Bs) = tx k (i + 1) := by
        unfold tx
        rw [List.append_assoc, List.replicate_succ', List.flatten_append]; rfl
      rw [bT (by omega), grd_Cat (by simp; omega), lt_eq, grd_I (by omega), cast_succ, e, ih (i + 1) (by omega) (by omega)]
    · have : i = m := by omega
      subst this
      rw [bF (by omega)]
      exact j2_eq F hF k i hk hm1 hm
theorem a_loop (F : Nat) (hF : 20000 < F) (k m : Nat) (hk : k ≤ 50) (hm1 : 1 ≤ m) (hm : m ≤ 100) : ∀ (n i : Nat), k - i < n → i ≤ k → law14_HeadCoded_L3 F (k : Int) (m : Int) n (List.replicate i 97, (i : Int)) = some true := by
  intro n
  induction n with
  | zero => intro i h; omega
  | succ n ih =>
    intro i hn hi
    show law14_HeadCoded_B3 F (k : Int) (m : Int) (law14_HeadCoded_L3 F (k : Int) (m : Int) n) (List.replicate i 97) (i : Int) = _
    unfold law14_HeadCoded_B3 law14_HeadCoded_j3
    by_cases h : i < k
    · have e : List.replicate i (97 : UInt8) ++ [97] = List.replicate (i + 1) 97 := List.replicate_succ'.symm
      rw [bT (by omega), grd_Cat (by simp; omega), lt_eq, grd_I (by omega), cast_succ, e, ih (i + 1) (by omega) (by omega)]
    · have : i = k := by omega
      subst this
      rw [bF (by omega)]
      have := e_loop F hF i m hk hm1 hm F 0 (by omega) (by omega)
      have e : tx i 0 = List.replicate i 97 := by unfold tx; simp
      rw [e] at this
      exact this
theorem HeadCoded_F (F : Nat) (hF : 20000 < F) (hw : law14_awake F = some true) (a b : Int) : law14_HeadCoded F a b = some true := by
  unfold law14_HeadCoded
  rw [hw, bnd_some, ntr, Bool.false_or]
  by_cases h : (0 ≤ a ∧ a ≤ 50) ∧ (1 ≤ b ∧ b ≤ 100)
  · rw [decide_eq_false (show ¬ a < 0 by omega), decide_eq_false (show ¬ 50 < a by omega), decide_eq_false (show ¬ b < 1 by omega), decide_eq_false (show ¬ 100 < b by omega), Bool.false_or, Bool.false_or, Bool.false_or, cfl]
    obtain ⟨k, rfl⟩ := Int.eq_ofNat_of_zero_le h.1.1
    obtain ⟨m, rfl⟩ := Int.eq_ofNat_of_zero_le (show 0 ≤ b by omega)
    exact a_loop F hF k m (by omega) (by omega) (by omega) F 0 (by omega) (by omega)
  · have : ((((decide (a < 0)) || (decide (50 < a))) || (decide (b < 1))) || (decide (100 < b))) = true := by
      simp only [Bool.or_eq_true, decide_eq_true_eq]; omega
    rw [this, ctr]
theorem HeadCoded_t (a b : Int) : law14_HeadCoded 300000 a b = some true := HeadCoded_F 300000 (by omega) awake_eq a b
end Go.Hd
