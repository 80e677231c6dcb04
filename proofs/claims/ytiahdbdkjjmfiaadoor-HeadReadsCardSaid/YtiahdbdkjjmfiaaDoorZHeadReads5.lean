/-
  Texts in one (only what HeadReads needs): HdV, HdB, HdK, HdC, HdReads.
-/
import Derived.Test.YtiahdbdkjjmfiaaDoorZHeadReads4
set_option linter.unusedVariables false
set_option linter.unusedSimpArgs false
namespace Go.Hd
open Go.Pv Go.Av
def isCoded (w : Bs) : Bool := decide (12 ≤ w.length) && (decide (w.take 10 = ahead) && decide (w.drop (w.length - 2) = behind))
def mid (w : Bs) : Bs := (w.take (w.length - 2)).drop 10
noncomputable def cdB (w : Bs) : Bool := isCoded w && decide ((dec (mid w)).2 = 0)
noncomputable def cdT (w : Bs) : Bs := (dec (mid w)).1
theorem dec_len (s : Bs) : (dec s).1.length ≤ s.length := by
  by_cases h : ∃ b, enc b = s
  · obtain ⟨b, rfl⟩ := h
    rw [dec_enc]
    have := decP_len (enc b) b (decP_enc b)
    exact this
  · rw [dec_no h]; simp
theorem bql (a b : Bs) : decide (a = b) = (a == b) := by by_cases h : a = b <;> simp [h]
theorem hp_take {w p : Bs} : Go.Lib.hasPrefix w p = (decide (p.length ≤ w.length) && decide (w.take p.length = p)) := by
  rw [← Go.Lib.hasPrefix_of_take, bql]
theorem hs_drop {w p : Bs} : Go.Lib.hasSuffix w p = (decide (p.length ≤ w.length) && decide (w.drop (w.length - p.length) = p)) := by
  rw [← Go.Lib.hasSuffix_of_drop, bql]
theorem coded_eq (F : Nat) (w : Bs) (hw : w.length ≤ 300000) (hF : w.length + 100 < F) : ∃ d, head_coded F w = some (d, cdB w) ∧ (cdB w = true → d = cdT w) := by
  unfold head_coded
  rw [lt_eq]
  have hal : ([61, 63, 117, 116, 102, 45, 56, 63, 66, 63] : Bs).length = 10 := rfl
  have hbl : ([63, 61] : Bs).length = 2 := rfl
  cases hp : Go.Lib.hasPrefix w [61, 63, 117, 116, 102, 45, 56, 63, 66, 63] with
  | false =>
    refine ⟨[], ?_, ?_⟩
    · dsimp only
      rw [Bool.not_false, cond_true]
      have : cdB w = false := by
        rw [hp_take, hal] at hp
        unfold cdB isCoded
        by_cases h : 12 ≤ w.length
        · rw [decide_eq_true (show 10 ≤ w.length by omega), tand] at hp
          have h9 : decide (w.take 10 = ahead) = false := hp
          rw [h9]; simp
        · rw [decide_eq_false h]; rfl
      rw [this]
    · intro h
      exfalso
      rw [hp_take, hal] at hp
      unfold cdB isCoded at h
      simp only [Bool.and_eq_true, decide_eq_true_eq] at h
      rw [decide_eq_true (show 10 ≤ w.length by omega), tand] at hp
      exact absurd h.1.2.1 (of_decide_eq_false hp)
  | true =>
    have hp2 := hp
    rw [hp_take, hal] at hp2
    simp only [Bool.and_eq_true, decide_eq_true_eq] at hp2
    have ht : Go.Lib.trimPrefix w [61, 63, 117, 116, 102, 45, 56, 63, 66, 63] = w.drop 10 := by unfold Go.Lib.trimPrefix; rw [hp]; rfl
    dsimp only
    rw [Bool.not_true, cond_false, ht, grd_S (by simp; omega), lt_eq]
    have hts : (Go.Lib.trimSuffix (w.drop 10) [63, 61]).length ≤ w.length := by have := Go.Lib.trimSuffix_le (w.drop 10) [63, 61]; simp at this; omega
    dsimp only
    rw [Bytes_eq F _ (by omega) (by omega), show dec (Go.Lib.trimSuffix (w.drop 10) [63, 61]) = ((dec (Go.Lib.trimSuffix (w.drop 10) [63, 61])).1, (dec (Go.Lib.trimSuffix (w.drop 10) [63, 61])).2) from rfl, bnd2_some]
    have hsf : Go.Lib.hasSuffix (w.drop 10) [63, 61] = isCoded w := by
      rw [hs_drop, hbl]
      unfold isCoded
      have h1 : decide (w.take 10 = ahead) = true := decide_eq_true hp2.2
      rw [h1, tand]
      by_cases h : 12 ≤ w.length
      · have e : (w.drop 10).drop ((w.drop 10).length - 2) = w.drop (w.length - 2) := by
          rw [List.drop_drop]; congr 1; simp; omega
        rw [e, decide_eq_true h, decide_eq_true (show 2 ≤ (w.drop 10).length by simp; omega)]; rfl
      · rw [decide_eq_false h, decide_eq_false (show ¬ 2 ≤ (w.drop 10).length by simp; omega)]; rfl
    cases hc : isCoded w with
    | false =>
      refine ⟨(dec (Go.Lib.trimSuffix (w.drop 10) [63, 61])).1, ?_, ?_⟩
      · rw [hsf, hc, fand]
        have : cdB w = false := by unfold cdB; rw [hc, fand]
        rw [this]
      · intro h; unfold cdB at h; rw [hc] at h; cases h
    | true =>
      have hm : Go.Lib.trimSuffix (w.drop 10) [63, 61] = mid w := by
        unfold Go.Lib.trimSuffix mid
        rw [hsf, hc, if_pos rfl, hbl, List.drop_take]
        congr 1
        rw [List.length_drop]; omega
      refine ⟨(dec (Go.Lib.trimSuffix (w.drop 10) [63, 61])).1, ?_, fun _ => ?_⟩
      · rw [hsf, hc, tand]
        have : cdB w = decide ((dec (mid w)).2 = 0) := by unfold cdB; rw [hc, tand]
        rw [this, hm]
      · rw [hm]; rfl
theorem rcoded_eq (F : Nat) (w : Bs) (hw : w.length ≤ 300000) (hF : w.length + 200 < F) : ∃ d, ref14_coded F w = some (d, cdB w) ∧ (cdB w = true → d = cdT w) ∧ d.length ≤ w.length := by
  unfold ref14_coded
  have e2 : (w.length : Int) - 2 = ((w.length - 2 : Nat) : Int) ∨ w.length < 2 := by omega
  by_cases h : 12 ≤ w.length
  · have e2 : (w.length : Int) - 2 = ((w.length - 2 : Nat) : Int) := by omega
    have e10 : (10 : Int) = ((10 : Nat) : Int) := rfl
    have hO : ∀ (c : Bool) (b : Bool) (k : Option (Bs × Int × Bool)), True := fun _ _ _ => trivial
    have hT : ∀ (c : Bool) (i : Nat) (k : Option (Bs × Bool)), i ≤ w.length → grdc c (okTo (i : Int) w.length) k = k := fun c i k hi => by
      rw [show okTo (i : Int) w.length = true from decide_eq_true (by omega)]; cases c <;> rfl
    have hI : ∀ (c : Bool) (k : Option (Bs × Bool)), grdc c (okI ((w.length - 2 : Nat) : Int)) k = k := fun c k => by
      rw [show okI ((w.length - 2 : Nat) : Int) = true from decide_eq_true (by omega)]; cases c <;> rfl
    rw [e2, e10, hT _ 10 _ (by omega), lt_eq, to_nat, hI, hT _ _ _ (by omega), lt_eq, from_nat, decide_eq_false (show ¬ (w.length : Int) < 12 by omega), Bool.false_or]
    by_cases h1 : w.take 10 = ahead
    · have h1' : decide (w.take 10 = ([61, 63, 117, 116, 102, 45, 56, 63, 66, 63] : Bs)) = true := decide_eq_true h1
      rw [h1', ntr, Bool.false_or]
      by_cases h2 : w.drop (w.length - 2) = behind
      · have h2' : decide (w.drop (w.length - 2) = ([63, 61] : Bs)) = true := decide_eq_true h2
        rw [h2', ntr, cfl, grd_I (by omega), grd_Sub (by omega), lt_eq, sub_nat]
        have hm : ((w.take (w.length - 2)).drop 10) = mid w := rfl
        have hml : (mid w).length ≤ w.length := by unfold mid; simp; omega
        rw [hm, rBytes_eq F _ (by omega) (by omega), show dec (mid w) = ((dec (mid w)).1, (dec (mid w)).2) from rfl, bnd2_some]
        have : cdB w = decide ((dec (mid w)).2 = 0) := by
          unfold cdB isCoded
          rw [decide_eq_true h, decide_eq_true h1, decide_eq_true h2]; rfl
        have hdl := dec_len (mid w)
        exact ⟨(dec (mid w)).1, by rw [this], fun _ => rfl, by omega⟩
      · have h2' : decide (w.drop (w.length - 2) = ([63, 61] : Bs)) = false := decide_eq_false h2
        have : cdB w = false := by
          unfold cdB isCoded
          rw [decide_eq_false h2]; simp
        rw [h2', nfl, ctr]
        exact ⟨[], by rw [this], (fun h => by rw [this] at h; cases h), by simp⟩
    · have h1' : decide (w.take 10 = ([61, 63, 117, 116, 102, 45, 56, 63, 66, 63] : Bs)) = false := decide_eq_false h1
      have : cdB w = false := by
        unfold cdB isCoded
        rw [decide_eq_false h1]; simp
      rw [h1', nfl, Bool.true_or, ctr]
      exact ⟨[], by rw [this], (fun h => by rw [this] at h; cases h), by simp⟩
  · have hlt : decide ((w.length : Int) < 12) = true := decide_eq_true (by omega)
    have : cdB w = false := by
      unfold cdB isCoded
      rw [decide_eq_false h]; rfl
    rw [hlt, ntr, grdc_f, lt_eq, Bool.true_or, ntr, grdc_f, grdc_f, lt_eq, Bool.true_or, ctr]
    exact ⟨[], by rw [this], (fun h => by rw [this] at h; cases h), by simp⟩
noncomputable def catT (ws : List Bs) : Bs := ws.flatMap cdT
noncomputable def valueOf (ws : List Bs) : Bs := bif ws.all cdB then catT ws else Str.join [32] ws
theorem cdT_len (w : Bs) : (cdT w).length ≤ w.length := by
  have h1 := dec_len (mid w)
  have h2 : (mid w).length ≤ w.length := by unfold mid; simp; omega
  unfold cdT; omega
theorem catT_cons (w : Bs) (ws : List Bs) : catT (w :: ws) = cdT w ++ catT ws := by unfold catT; rw [List.flatMap_cons]
theorem catT_len : ∀ ws : List Bs, (catT ws).length ≤ Str.total ws
  | [] => by simp [catT, Str.total]
  | w :: ws => by
    have := catT_len ws
    have := cdT_len w
    simp [catT, Str.total] at *; omega
theorem valueOf_len (ws : List Bs) : (valueOf ws).length ≤ ws.length + Str.total ws := by
  unfold valueOf
  cases ws.all cdB with
  | true => have := catT_len ws; rw [ctr]; omega
  | false => have := Str.join_length [32] ws; rw [cfl]; simpa using this
theorem value_loop (F : Nat) (ws : List Bs) (hF : 400100 < F) (hl : ws.length + Str.total ws ≤ 300000) : ∀ (n i : Nat) (out : Bs), ws.length - i < n → i ≤ ws.length → out.length + Str.total (ws.drop i) ≤ 300000 →
    head_value_L1 F ws n ((i : Int), out) = some (bif (ws.drop i).all cdB then out ++ catT (ws.drop i) else Str.join [32] ws) := by
  intro n
  induction n with
  | zero => intro i out h; omega
  | succ n ih =>
    intro i out hn hi ho
    show head_value_B1 F ws (head_value_L1 F ws n) (i : Int) out = _
    unfold head_value_B1 head_value_j1
    by_cases h : i < ws.length
    · have hd : ws.drop i = ws[i] :: ws.drop (i + 1) := List.drop_eq_getElem_cons h
      have ht := Str.total_drop ws i h
      obtain ⟨d, c1, c2⟩ := coded_eq F ws[i] (by omega) (by omega)
      rw [bT (by omega), grd_At (by omega), lt_eq, at_nat h, c1, bnd2_some, hd, List.all_cons]
      cases hc : cdB ws[i] with
      | false => rw [nfl, ctr, grd_Join (by simp; omega), lt_eq, fand, cfl]
      | true =>
        have hdl := cdT_len ws[i]
        rw [ntr, cfl, tand, c2 hc, grd_W (by omega), lt_eq, grd_I (by omega), cast_succ, ih (i + 1) _ (by omega) (by omega) (by simp; omega)]
        rw [catT_cons, List.append_assoc]
    · have hd : ws.drop i = [] := List.drop_eq_nil_of_le (by omega)
      rw [bF (by omega), grd_W (by simp; omega), hd]
      simp [catT]
theorem value_eq (F : Nat) (ws : List Bs) (hF : 400100 < F) (hl : ws.length + Str.total ws ≤ 300000) : head_value F ws = some (valueOf ws) := by
  have := value_loop F ws hF hl F 0 [] (by omega) (by omega) (by simp; omega)
  rw [List.drop_zero, List.nil_append] at this
  exact this
def jn (i : Nat) (out : Bs) (r : List Bs) : Bs := if i = 0 then Str.join [32] r else out ++ Str.rest [32] r
theorem rvalue_loop (F : Nat) (ws : List Bs) (hF : 400400 < F) (hl : ws.length + Str.total ws ≤ 300000) : ∀ (n i : Nat) (j c : Bs) (al : Bool), ws.length - i < n → i ≤ ws.length → j.length + Str.total (ws.drop i) + (ws.length - i) ≤ 800000 → c.length + Str.total (ws.drop i) ≤ 800000 → (i = 0 → j = []) →
    ∃ e, ref14_value_L1 F ws n (j, c, al, (i : Int)) = some (bif al && (ws.drop i).all cdB then e else jn i j (ws.drop i)) ∧ ((al && (ws.drop i).all cdB) = true → e = c ++ catT (ws.drop i)) := by
  intro n
  induction n with
  | zero => intro i j c al h; omega
  | succ n ih =>
    intro i j c al hn hi hj hc h0
    show ∃ e, ref14_value_B1 F ws (ref14_value_L1 F ws n) j c al (i : Int) = _ ∧ _
    unfold ref14_value_B1 ref14_value_j2 ref14_value_j1
    by_cases h : i < ws.length
    · have hd : ws.drop i = ws[i] :: ws.drop (i + 1) := List.drop_eq_getElem_cons h
      have ht := Str.total_drop ws i h
      have hmt := mem_total (List.getElem_mem h)
      obtain ⟨d, c1, c2, c3⟩ := rcoded_eq F ws[i] (by omega) (by omega)
      rw [bT (by omega), grd_At (by omega), lt_eq, at_nat h, c1, bnd2_some, grd_Cat (by omega), lt_eq, hd, List.all_cons]
      have key : ∀ j' : Bs, j' = (if i = 0 then ws[i] else j ++ [32] ++ ws[i]) → ∃ e, ref14_value_L1 F ws n (j', c ++ d, al && cdB ws[i], ((i + 1 : Nat) : Int)) = some (bif al && (cdB ws[i] && (ws.drop (i + 1)).all cdB) then e else jn i j (ws[i] :: ws.drop (i + 1))) ∧ ((al && (cdB ws[i] && (ws.drop (i + 1)).all cdB)) = true → e = c ++ catT (ws[i] :: ws.drop (i + 1))) := by
        intro j' hj'
        have hl' : j'.length ≤ j.length + 1 + ws[i].length := by rw [hj']; split <;> simp <;> omega
        obtain ⟨e, e1, e2⟩ := ih (i + 1) j' (c ++ d) (al && cdB ws[i]) (by omega) (by omega) (by omega) (by simp; omega) (fun h => by omega)
        refine ⟨e, ?_, ?_⟩
        · rw [e1, Bool.and_assoc]
          congr 2
          unfold jn
          rw [if_neg (by omega), hj']
          by_cases hz : i = 0
          · rw [if_pos hz, if_pos hz]; rfl
          · rw [if_neg hz, if_neg hz]; simp [Str.rest]
        · intro hh
          rw [← Bool.and_assoc] at hh
          have h3 := e2 hh
          have h4 : cdB ws[i] = true := by
            simp only [Bool.and_eq_true] at hh; exact hh.1.2
          rw [h3, c2 h4, catT_cons, List.append_assoc]
      by_cases hz : i = 0
      · have hj0 := h0 hz
        obtain ⟨e, e1, e2⟩ := key ws[i] (by rw [if_pos hz])
        refine ⟨e, ?_, e2⟩
        rw [bF (by omega), grd_At (by omega), lt_eq, hj0, List.nil_append, grd_Cat (by simp; omega), lt_eq, grd_I (by omega), cast_succ]
        rw [hj0] at e1
        exact e1
      · obtain ⟨e, e1, e2⟩ := key (j ++ [32] ++ ws[i]) (by rw [if_neg hz])
        refine ⟨e, ?_, e2⟩
        rw [bT (by omega), grd_Cat (by simp; omega), lt_eq, grd_At (by omega), lt_eq, grd_Cat (by simp; omega), lt_eq, grd_I (by omega), cast_succ]
        exact e1
    · have hd : ws.drop i = [] := List.drop_eq_nil_of_le (by omega)
      rw [bF (by omega), hd]
      refine ⟨c, ?_, fun _ => by simp [catT]⟩
      have hjn : jn i j [] = j := by
        unfold jn
        by_cases hz : i = 0
        · rw [if_pos hz, h0 hz]; rfl
        · rw [if_neg hz]; simp [Str.rest]
      rw [hjn]
      cases al <;> rfl
theorem rvalue_eq (F : Nat) (ws : List Bs) (hF : 400400 < F) (hl : ws.length + Str.total ws ≤ 300000) : ref14_value F ws = some (valueOf ws) := by
  obtain ⟨e, e1, e2⟩ := rvalue_loop F ws hF hl F 0 [] [] true (by omega) (by omega) (by simp; omega) (by simp; omega) (fun _ => rfl)
  unfold ref14_value valueOf
  rw [List.drop_zero, tand] at e1 e2
  refine Eq.trans e1 ?_
  cases hh : ws.all cdB with
  | false => rfl
  | true => rw [ctr, ctr, e2 hh]; rfl
end Go.Hd
namespace Go.Hd
open Go.Pv Go.Av
def cutAt (c : UInt8) : Bs → Option (Bs × Bs)
  | [] => none
  | b :: r => if b = c then some ([], r) else match cutAt c r with
    | none => none
    | some (x, y) => some (b :: x, y)
theorem cut_one (c : UInt8) : ∀ s : Bs, Go.Lib.cut s [c] = match cutAt c s with
    | none => (s, [], false)
    | some (x, y) => (x, y, true)
  | [] => rfl
  | b :: r => by
    have ih := cut_one c r
    have hi := index_one_cons b c r
    have hge := Go.Lib.index_ge r [c]
    unfold cutAt
    unfold Go.Lib.cut at ih ⊢
    by_cases h : b = c
    · rw [if_pos h] at hi ⊢
      rw [hi]; rfl
    · rw [if_neg h] at hi ⊢
      by_cases hm : Go.Lib.index r [c] = -1
      · rw [if_pos hm] at hi
        rw [hm, if_neg (by omega)] at ih
        rw [hi, if_neg (by omega)]
        cases hc : cutAt c r with
        | none => rfl
        | some x => rw [hc] at ih; simp at ih
      · rw [if_neg hm] at hi
        obtain ⟨j, hj⟩ := Int.eq_ofNat_of_zero_le (show 0 ≤ Go.Lib.index r [c] by omega)
        rw [hj, if_pos (by omega), Int.toNat_natCast] at ih
        rw [hi, hj, if_pos (by omega), show ((j : Int) + 1).toNat = j + 1 by omega]
        cases hc : cutAt c r with
        | none => rw [hc] at ih; simp at ih
        | some x =>
          obtain ⟨x, y⟩ := x
          rw [hc] at ih
          simp only [Prod.mk.injEq] at ih
          show ((b :: r).take (j + 1), (b :: r).drop (j + 1 + 1), true) = (b :: x, y, true)
          rw [List.take_succ_cons, ih.1, List.drop_succ_cons]
          have h2 := ih.2.1
          rw [show ([c] : Bs).length = 1 from rfl] at h2
          rw [h2]
theorem cutAt_len {c : UInt8} : ∀ {s x y : Bs}, cutAt c s = some (x, y) → s = x ++ c :: y
  | [], x, y, h => by cases h
  | b :: r, x, y, h => by
    unfold cutAt at h
    by_cases hb : b = c
    · rw [if_pos hb] at h; cases h; rw [hb]; rfl
    · rw [if_neg hb] at h
      cases hc : cutAt c r with
      | none => rw [hc] at h; cases h
      | some z =>
        obtain ⟨p, q⟩ := z
        rw [hc] at h; cases h
        have := cutAt_len hc
        rw [this]; rfl
noncomputable def readOf (s : Bs) : Bs × Bs × Int := match cutAt 58 s with
  | none => ([], [], 2)
  | some (x, y) => if okLine x (valueOf (wf [] y)) = true ∧ lineOf x (valueOf (wf [] y)) = s then (x, valueOf (wf [] y), 0) else ([], [], 2)
theorem Read_eq (F : Nat) (s : Bs) (hs : s.length ≤ 250000) (hF : 900000 < F) : head_Read F s = some (readOf s) := by
  unfold head_Read readOf
  rw [grd_S (by omega), lt_eq, cut_one]
  cases hc : cutAt 58 s with
  | none =>
    dsimp only
    have e : fieldsP spB [] = [] := fields_eq []
    rw [grd_S (by simp), lt_eq, e, value_eq F [] (by omega) (by simp [Str.total]), bnd_some, Line_eq F s _ (by omega) (by omega) (by omega)]
    generalize (if okLine s (valueOf []) = true then (lineOf s (valueOf []), (0 : Int)) else ([], 1)) = r
    obtain ⟨p, q⟩ := r
    rw [bnd2_some, lt_eq, nfl, Bool.true_or, Bool.true_or, ctr]
  | some z =>
    obtain ⟨x, y⟩ := z
    have hl := congrArg List.length (cutAt_len hc)
    rw [List.length_append, List.length_cons] at hl
    have ht := wf_total y []
    have hv := valueOf_len (wf [] y)
    simp only [List.length_nil] at ht
    dsimp only
    rw [grd_S (by omega), lt_eq, fields_eq, value_eq F _ (by omega) (by omega), bnd_some, Line_eq F x _ (by omega) (by omega) (by omega)]
    by_cases ho : okLine x (valueOf (wf [] y)) = true
    · rw [if_pos ho, bnd2_some, lt_eq, decide_eq_true rfl, ntr, Bool.false_or]
      by_cases he : lineOf x (valueOf (wf [] y)) = s
      · rw [decide_eq_true he, ntr, Bool.false_or, cfl, if_pos ⟨ho, he⟩]
      · rw [decide_eq_false he, nfl, Bool.false_or, ctr, if_neg (fun h => he h.2)]
    · rw [if_neg ho, bnd2_some, lt_eq, decide_eq_false (show ¬ (1 : Int) = 0 by omega), nfl, ntr, Bool.false_or, Bool.true_or, ctr, if_neg (fun h => ho h.1)]
def wd : Bs → Bs → List Bs
  | cur, [] => []
  | cur, c :: r => if spb c = true then (if cur = [] then wd [] r else cur :: wd [] r) else wd (cur ++ [c]) r
theorem wd_wf : ∀ (s cur : Bs), s.getLast? = some 10 → wd cur s = wf cur s
  | [], cur, h => by cases h
  | [c], cur, h => by
    have : c = 10 := by simpa using h
    subst this
    have h10 : spb 10 = true := rfl
    rw [wd, wf, if_pos h10, if_pos h10]; rfl
  | c :: d :: r, cur, h => by
    have h2 : (d :: r).getLast? = some 10 := by simpa using h
    rw [wd, wf, wd_wf (d :: r) [] h2, wd_wf (d :: r) (cur ++ [c]) h2]
theorem wd_total : ∀ (s cur : Bs), Str.total (wd cur s) + (wd cur s).length ≤ cur.length + s.length + 1
  | [], cur => by simp [wd, Str.total]
  | c :: r, cur => by
    rw [wd]
    split
    · have := wd_total r []
      split
      · simp at this ⊢; omega
      · simp [Str.total] at this ⊢; omega
    · have := wd_total r (cur ++ [c])
      simp at this ⊢; omega
theorem lineOf_last (a b : Bs) : (lineOf a b).getLast? = some 10 := by unfold lineOf; simp
theorem rread_loop (F : Nat) (s : Bs) (p : Int) (hs : s.length ≤ 250000) : ∀ (n i : Nat) (ws : List Bs) (cur : Bs), s.length - i < n → i ≤ s.length → cur.length ≤ i → ws.length ≤ i →
    ref14_Read_L1 F s p n (ws, cur, (i : Int)) = ref14_Read_j2 F s p (ws ++ wd cur (s.drop i)) := by
  intro n
  induction n with
  | zero => intro i ws cur h; omega
  | succ n ih =>
    intro i ws cur hn hi hc hw
    show ref14_Read_B1 F s p (ref14_Read_L1 F s p n) ws cur (i : Int) = _
    unfold ref14_Read_B1 ref14_Read_j4 ref14_Read_j3
    by_cases h : i < s.length
    · have hd : s.drop i = s[i] :: s.drop (i + 1) := List.drop_eq_getElem_cons h
      have hA : ∀ (c : Bool) (k : Option (Bs × Bs × Int)), grdc c (okAt (i : Int) s.length) k = k := fun c k => by
        rw [show okAt (i : Int) s.length = true from decide_eq_true (by omega)]; cases c <;> rfl
      rw [bT (by omega), grd_At (by omega), lt_eq, at_nat h, hA, lt_eq, hA, lt_eq, hd, wd]
      have e : (((decide (s[i] = 32)) || (decide (s[i] = 13))) || (decide (s[i] = 10))) = spb s[i] := rfl
      rw [e]
      cases hb : spb s[i] with
      | true =>
        rw [ctr, if_pos rfl]
        by_cases h0 : cur = []
        · rw [decide_eq_true h0, ntr, cfl, if_pos h0, grd_I (by omega), cast_succ, ih (i + 1) ws [] (by omega) (by omega) (by simp) (by omega)]
        · rw [decide_eq_false h0, nfl, ctr, if_neg h0, grd_Cat (by simp; omega), lt_eq, grd_I (by omega), cast_succ, ih (i + 1) _ [] (by omega) (by omega) (by simp) (by simp; omega), List.append_assoc]; rfl
      | false =>
        have e1 : sub s (i : Int) ((i : Int) + 1) = [s[i]] := by
          rw [cast_succ, sub_nat, List.take_succ_eq_append_getElem h, List.drop_left' (by simp; omega)]
        rw [cfl, if_neg (by simp), grd_I (by omega), grd_Sub (by omega), lt_eq, e1, grd_Cat (by simp; omega), lt_eq, grd_I (by omega), cast_succ, ih (i + 1) ws _ (by omega) (by omega) (by simp; omega) (by omega)]
    · rw [bF (by omega), List.drop_eq_nil_of_le (by omega)]
      simp [wd]
theorem rcut_loop (F : Nat) (s : Bs) (hs : s.length ≤ 250000) : ∀ (n i : Nat), s.length - i < n → i ≤ s.length →
    ref14_Read_L2 F s n (i : Int) = match cutAt 58 (s.drop i) with
      | none => ref14_Read_j5 F s (s.length : Int)
      | some (x, y) => ref14_Read_j5 F s ((i + x.length : Nat) : Int) := by
  intro n
  induction n with
  | zero => intro i h; omega
  | succ n ih =>
    intro i hn hi
    show ref14_Read_B2 F s (ref14_Read_L2 F s n) (i : Int) = _
    unfold ref14_Read_B2
    by_cases h : i < s.length
    · have hd : s.drop i = s[i] :: s.drop (i + 1) := List.drop_eq_getElem_cons h
      rw [decide_eq_true (show (i : Int) < s.length by omega), grdc_t, grd_At (by omega), lt_eq, at_nat h, tand, hd]
      unfold cutAt
      by_cases hc : s[i] = 58
      · rw [decide_eq_true hc, ntr, cfl, if_pos hc]; rfl
      · rw [decide_eq_false hc, nfl, ctr, if_neg hc, grd_I (by omega), cast_succ, ih (i + 1) (by omega) (by omega)]
        cases cutAt 58 (s.drop (i + 1)) with
        | none => rfl
        | some z =>
          obtain ⟨x, y⟩ := z
          dsimp only
          rw [List.length_cons]
          congr 2; omega
    · have : i = s.length := by omega
      subst this
      rw [decide_eq_false (show ¬ ((s.length : Nat) : Int) < s.length by omega), grdc_f, lt_eq, fand, cfl, List.drop_length]; rfl
theorem rRead_eq (F : Nat) (s : Bs) (hs : s.length ≤ 250000) (hF : 900000 < F) : ref14_Read F s = some (readOf s) := by
  have hl := rcut_loop F s hs F 0 (by omega) (by omega)
  rw [List.drop_zero] at hl
  unfold ref14_Read readOf
  refine Eq.trans hl ?_
  cases hc : cutAt 58 s with
  | none =>
    dsimp only
    unfold ref14_Read_j5
    rw [bT (by omega)]
  | some z =>
    obtain ⟨x, y⟩ := z
    dsimp only
    have hcl := cutAt_len hc
    have hll := congrArg List.length hcl
    rw [List.length_append, List.length_cons] at hll
    have e1 : s.take x.length = x := by rw [hcl]; simp
    have e2 : s.drop (x.length + 1) = y := by rw [hcl, List.drop_append]; simp
    have ht := wd_total y []
    have hv := valueOf_len (wd [] y)
    simp only [List.length_nil] at ht
    unfold ref14_Read_j5
    rw [bF (by omega), grd_I (by omega), show ((0 + x.length : Nat) : Int) + 1 = ((x.length + 1 : Nat) : Int) by omega, rread_loop F s _ hs F (x.length + 1) [] [] (by omega) (by omega) (by simp) (by simp), e2, List.nil_append]
    unfold ref14_Read_j2 ref14_Read_j1
    rw [grd_To (by omega), lt_eq, to_nat, Nat.zero_add, e1, rvalue_eq F _ (by omega) (by omega), bnd_some, rLine_eq F x _ (by omega) (by omega) (by omega)]
    by_cases hlast : y.getLast? = some 10
    · rw [wd_wf y [] hlast]
      by_cases ho : okLine x (valueOf (wf [] y)) = true
      · rw [if_pos ho, bnd2_some, decide_eq_true rfl, ntr, Bool.false_or]
        by_cases he : lineOf x (valueOf (wf [] y)) = s
        · rw [decide_eq_true he, ntr, cfl, if_pos ⟨ho, he⟩]
        · rw [decide_eq_false he, nfl, ctr, if_neg (fun h => he h.2)]
      · rw [if_neg ho, bnd2_some, decide_eq_false (show ¬ (1 : Int) = 0 by omega), nfl, Bool.true_or, ctr, if_neg (fun h => ho h.1)]
    · have hno : ∀ v, lineOf x v ≠ s := fun v h => by
        have h1 := lineOf_last x v
        rw [h, hcl] at h1
        rw [List.getLast?_append] at h1
        cases y with
        | nil => simp at h1
        | cons b r => 
          rw [List.getLast?_cons_cons] at h1
          apply hlast
          cases hh : (b :: r).getLast? with
          | none => simp at hh
          | some q => rw [hh] at h1; simpa using h1
      have hn2 : ¬ (okLine x (valueOf (wf [] y)) = true ∧ lineOf x (valueOf (wf [] y)) = s) := fun h => hno _ h.2
      rw [if_neg hn2]
      by_cases ho : okLine x (valueOf (wd [] y)) = true
      · rw [if_pos ho, bnd2_some, decide_eq_true rfl, ntr, Bool.false_or, decide_eq_false (hno _), nfl, ctr]
      · rw [if_neg ho, bnd2_some, decide_eq_false (show ¬ (1 : Int) = 0 by omega), nfl, Bool.true_or, ctr]
end Go.Hd
namespace Go.Hd
open Go.Pv Go.Av
def en : Bs → Option Nat
  | [] => none
  | c :: r => if (c = 13 ∧ r.head? = some 10) ∧ (r.drop 1).head? ≠ some 32 then some 2 else match en r with
    | none => none
    | some n => some (n + 1)
theorem en_le : ∀ {s : Bs} {n : Nat}, en s = some n → 2 ≤ n ∧ n ≤ s.length
  | [], n, h => by cases h
  | c :: r, n, h => by
    rw [en] at h
    split at h
    · rename_i hc
      cases h
      have : r ≠ [] := fun e => by rw [e] at hc; cases hc.1.2
      have := List.length_pos_iff.2 this
      rw [List.length_cons]; omega
    · cases hr : en r with
      | none => rw [hr] at h; cases h
      | some m =>
        rw [hr] at h; cases h
        have := en_le hr
        rw [List.length_cons]; omega
theorem head_at (s : Bs) (i : Nat) : (s.drop i).head? = s[i]? := by rw [List.head?_drop]
theorem end_loop (s : Bs) (hs : s.length ≤ 1000000) : ∀ (m i : Nat), s.length + 2 - i < m → 2 ≤ i → i ≤ s.length + 2 →
    ref14_end_L1 s m (i : Int) = some (match en (s.drop (i - 2)) with | none => -1 | some k => ((i - 2 + k : Nat) : Int)) := by
  intro m
  induction m with
  | zero => intro i h; omega
  | succ m ih =>
    intro i hm h2 hi
    show ref14_end_B1 s (ref14_end_L1 s m) (i : Int) = _
    unfold ref14_end_B1 ref14_end_j1
    by_cases h : i ≤ s.length
    · have e2 : (i : Int) - 2 = ((i - 2 : Nat) : Int) := by omega
      have e1 : (i : Int) - 1 = ((i - 1 : Nat) : Int) := by omega
      have hd : s.drop (i - 2) = s[i - 2]'(by omega) :: s.drop (i - 1) := by
        have := List.drop_eq_getElem_cons (show i - 2 < s.length by omega)
        rw [this]; congr 2; omega
      have hA : ∀ (c : Bool) (k : Option Int), grdc c (okAt ((i - 1 : Nat) : Int) s.length) k = k := fun c k => by
        rw [show okAt ((i - 1 : Nat) : Int) s.length = true from decide_eq_true (by omega)]; cases c <;> rfl
      have hI : ∀ (c : Bool) (k : Option Int), grdc c (okI ((i - 1 : Nat) : Int)) k = k := fun c k => by
        rw [show okI ((i - 1 : Nat) : Int) = true from decide_eq_true (by omega)]; cases c <;> rfl
      rw [bT (by omega), grd_I (by omega), e2, grd_At (by omega), lt_eq, at_nat (by omega), e1, hI, hA, lt_eq, at_nat (by omega)]
      have hh : (s.drop (i - 1)).head? = some (s[i - 1]'(by omega)) := by rw [head_at, List.getElem?_eq_getElem (by omega)]
      have hh2 : ((s.drop (i - 1)).drop 1).head? = s[i]? := by rw [List.drop_drop, head_at]; congr 1; omega
      rw [hd, en, hh, hh2]
      have hnext : ref14_end_L1 s m ((i : Int) + 1) = some (match (match en (s.drop (i - 1)) with | none => none | some n => some (n + 1)) with | none => -1 | some k => ((i - 2 + k : Nat) : Int)) := by
        rw [cast_succ, ih (i + 1) (by omega) (by omega) (by omega), show i + 1 - 2 = i - 1 by omega]
        cases en (s.drop (i - 1)) with
        | none => rfl
        | some k => dsimp only; congr 2; omega
      by_cases hc : s[i - 2]'(by omega) = 13 ∧ s[i - 1]'(by omega) = 10
      · have tt : ((decide (s[i - 2]'(by omega) = 13)) && (decide (s[i - 1]'(by omega) = 10))) = true := by rw [decide_eq_true hc.1, decide_eq_true hc.2]; rfl
        simp only [tt, tand]
        rw [hc.1, hc.2]
        by_cases hl : i = s.length
        · have : s[i]? = none := List.getElem?_eq_none (by omega)
          rw [decide_eq_true (show (i : Int) = s.length by omega), ntr, grdc_f, lt_eq, Bool.true_or, ctr, this, if_pos ⟨⟨rfl, rfl⟩, by simp⟩]
          dsimp only; congr 2; omega
        · have : s[i]? = some (s[i]'(by omega)) := List.getElem?_eq_getElem (by omega)
          rw [decide_eq_false (show ¬ (i : Int) = s.length by omega), nfl, grdc_t, grd_At (by omega), lt_eq, at_nat (by omega), Bool.false_or, this]
          by_cases h32 : s[i]'(by omega) = 32
          · rw [decide_eq_true h32, ntr, cfl, grd_I (by omega), hnext, h32, if_neg (fun h => h.2 rfl)]
          · rw [decide_eq_false h32, nfl, ctr, if_pos ⟨⟨rfl, rfl⟩, fun h => h32 (Option.some.inj h)⟩]
            dsimp only; congr 2; omega
      · have : ((decide (s[i - 2]'(by omega) = 13)) && (decide (s[i - 1]'(by omega) = 10))) = false := by rw [← Bool.decide_and]; exact decide_eq_false hc
        simp only [this, fand, grdc_f, lt_eq, cfl]
        rw [grd_I (by omega), hnext, if_neg (fun h => hc ⟨h.1.1, Option.some.inj h.1.2⟩)]
    · have : en (s.drop (i - 2)) = none := by
        have hlen : (s.drop (i - 2)).length ≤ 1 := by simp; omega
        cases he : en (s.drop (i - 2)) with
        | none => rfl
        | some k => have := en_le he; omega
      rw [bF (by omega), this]
theorem end_eq (F : Nat) (s : Bs) (hs : s.length ≤ 1000000) (hF : s.length + 10 < F) : ref14_end F s = some (match en s with | none => -1 | some k => (k : Int)) := by
  have := end_loop s hs F 2 (by omega) (Nat.le_refl 2) (by omega)
  refine Eq.trans this ?_
  show some (match en s with | none => -1 | some k => ((0 + k : Nat) : Int)) = _
  cases en s with
  | none => rfl
  | some k => dsimp only; rw [Nat.zero_add]
theorem index_cons (x : UInt8) (r sub : Bs) : Go.Lib.index (x :: r) sub = if sub.isPrefixOf (x :: r) = true then 0 else if Go.Lib.index r sub = -1 then -1 else Go.Lib.index r sub + 1 := by
  rw [Go.Lib.index]
  simp only [beq_iff_eq]
theorem pre2 (x : UInt8) (r : Bs) : ([13, 10] : Bs).isPrefixOf (x :: r) = true ↔ x = 13 ∧ r.head? = some 10 := by
  cases r with
  | nil => simp [List.isPrefixOf]
  | cons y r => simp [List.isPrefixOf]; constructor <;> (intro ⟨h1, h2⟩; exact ⟨h1.symm, h2.symm⟩)
theorem en_index : ∀ (s : Bs), (Go.Lib.index s [13, 10] = -1 ∧ en s = none) ∨ ∃ j : Nat, Go.Lib.index s [13, 10] = (j : Int) ∧ j + 2 ≤ s.length ∧
    en s = if (s.drop (j + 2)).head? = some 32 then (match en (s.drop (j + 2)) with | none => none | some k => some (j + 2 + k)) else some (j + 2)
  | [] => .inl ⟨rfl, rfl⟩
  | c :: r => by
    have ih := en_index r
    rw [index_cons, en]
    by_cases hp : c = 13 ∧ r.head? = some 10
    · right
      refine ⟨0, by rw [if_pos ((pre2 c r).2 hp)]; rfl, ?_, ?_⟩
      · have : r ≠ [] := fun e => by rw [e] at hp; cases hp.2
        have := List.length_pos_iff.2 this
        rw [List.length_cons]; omega
      · have hd : (c :: r).drop (0 + 2) = r.drop 1 := rfl
        rw [hd]
        by_cases h32 : (r.drop 1).head? = some 32
        · rw [if_neg (fun h => h.2 h32), if_pos h32]
          -- the sign behind is the line feed
          cases r with
          | nil => cases hp.2
          | cons d r =>
            have : d = 10 := by simpa using hp.2
            subst this
            rw [en, if_neg (fun h => by have := h.1.1; revert this; decide)]
            show (match (match en r with | none => none | some n => some (n + 1)) with | none => none | some n => some (n + 1)) = match en r with | none => none | some k => some (0 + 2 + k)
            cases en r with
            | none => rfl
            | some k => dsimp only; congr 1; omega
        · rw [if_pos ⟨hp, h32⟩, if_neg h32]
    · have hp1 : ¬ ([13, 10] : Bs).isPrefixOf (c :: r) = true := fun h => hp ((pre2 c r).1 h)
      have hp3 : ¬ ((c = 13 ∧ r.head? = some 10) ∧ (r.drop 1).head? ≠ some 32) := fun h => hp h.1
      rw [if_neg hp1, if_neg hp3]
      rcases ih with ⟨h1, h2⟩ | ⟨j, h1, hjl, h2⟩
      · left; rw [h1, h2]; exact ⟨rfl, rfl⟩
      · right
        refine ⟨j + 1, by rw [h1, if_neg (by omega)]; rfl, by rw [List.length_cons]; omega, ?_⟩
        have hd : (c :: r).drop (j + 1 + 2) = r.drop (j + 2) := by rw [show j + 1 + 2 = (j + 2) + 1 by omega]; rfl
        rw [hd, h2]
        by_cases h32 : (r.drop (j + 2)).head? = some 32
        · rw [if_pos h32, if_pos h32]
          cases en (r.drop (j + 2)) with
          | none => rfl
          | some k => dsimp only; congr 1; omega
        · rw [if_neg h32, if_neg h32]
theorem fo (x : Bool) : (false || x) = x := Eq.symm (Eq.symm rfl)
abbrev Rr := List Bs × Bs × Bool
theorem in_loop (s : Bs) (ls : List Bs) (rec10 : (Bs × List Bs) → Option Rr) (hs : s.length ≤ 1000000) : ∀ (m i : Nat), s.length - i + 1 < m → i ≤ s.length → (i = 0 ∨ (s.drop i).head? = some 32) →
    head_lines_L1 s ls rec10 m (i : Int) = match en (s.drop i) with
      | none => some ([], [], false)
      | some k => head_lines_j2 s ls rec10 ((i + k : Nat) : Int) := by
  intro m
  induction m with
  | zero => intro i h; omega
  | succ m ih =>
    intro i hm hi hz
    show head_lines_B1 s ls rec10 (head_lines_L1 s ls rec10 m) (i : Int) = _
    unfold head_lines_B1
    have hcond : ∀ k : UInt8 → Option Rr, (grdc ((!(decide ((i : Int) = 0))) && (decide ((i : Int) < (s.length : Int)))) (okAt (i : Int) s.length) <| lt (at_ s (i : Int)) fun x22 => k x22) = k (at_ s (i : Int)) := fun k => by
      rw [lt_eq]
      by_cases hl : i < s.length
      · rw [show okAt (i : Int) s.length = true from decide_eq_true (by omega)]
        cases (!(decide ((i : Int) = 0))) && (decide ((i : Int) < (s.length : Int))) <;> rfl
      · rw [decide_eq_false (show ¬ (i : Int) < s.length by omega), Bool.and_false, grdc_f]
    rw [hcond]
    have hgo : ((decide ((i : Int) = 0)) || ((decide ((i : Int) < (s.length : Int))) && (decide (at_ s (i : Int) = 32)))) = true := by
      rcases hz with h | h
      · rw [decide_eq_true (show (i : Int) = 0 by omega)]; rfl
      · rw [head_at] at h
        have hl : i < s.length := (List.getElem?_eq_some_iff.1 h).1
        have h3 := (List.getElem?_eq_some_iff.1 h).2
        rw [at_nat hl, decide_eq_true h3, decide_eq_true (show (i : Int) < s.length by omega)]; simp
    have h2 : decide (2 ≤ ([13, 10] : Bs).length) = true := rfl
    rw [hgo, ctr, grd_To (by omega), lt_eq, from_nat, grd_S (by simp; omega), h2, grd_t, grd_S (by simp), lt_eq]
    rcases en_index (s.drop i) with ⟨e1, e2⟩ | ⟨j, e1, hjl, e2⟩
    · rw [e1, e2, bT (by omega)]
    · rw [List.length_drop] at hjl
      have hij : (i : Int) + ((j : Int) + 2) = ((i + j + 2 : Nat) : Int) := by omega
      rw [e1, bF (by omega), grd_I (by omega), grd_I (by omega), hij]
      have hdd : (s.drop i).drop (j + 2) = s.drop (i + j + 2) := by rw [List.drop_drop]; congr 1
      rw [hdd] at e2
      rw [e2]
      by_cases h32 : (s.drop (i + j + 2)).head? = some 32
      · rw [if_pos h32, ih (i + j + 2) (by omega) (by omega) (.inr h32)]
        cases en (s.drop (i + j + 2)) with
        | none => rfl
        | some k => dsimp only; congr 2; omega
      · rw [if_neg h32]
        dsimp only
        obtain ⟨m, rfl⟩ : ∃ q, m = q + 1 := ⟨m - 1, by omega⟩
        show head_lines_B1 s ls rec10 (head_lines_L1 s ls rec10 m) ((i + j + 2 : Nat) : Int) = _
        unfold head_lines_B1
        simp only [decide_eq_false (show ¬ ((i + j + 2 : Nat) : Int) = 0 by omega), nfl, tand, fo]
        by_cases hl : i + j + 2 < s.length
        · rw [head_at, List.getElem?_eq_getElem hl] at h32
          have h3 : ¬ s[i + j + 2] = 32 := fun e => h32 (by rw [e])
          rw [decide_eq_true (show ((i + j + 2 : Nat) : Int) < s.length by omega), grdc_t, grd_At (by omega), lt_eq, at_nat hl, decide_eq_false h3, Bool.and_false, cfl]
          congr 1
        · rw [decide_eq_false (show ¬ ((i + j + 2 : Nat) : Int) < s.length by omega), grdc_f, lt_eq, fand, cfl]
          congr 1
def ln : Nat → Bs → Option (List Bs × Bs)
  | 0, _ => none
  | f + 1, s => if Go.Lib.hasPrefix s [13, 10] = true then some ([], s.drop 2) else match en s with
    | none => none
    | some n => match ln f (s.drop n) with
      | none => none
      | some (l, r) => some (s.take n :: l, r)
theorem lines_loop (F : Nat) : ∀ (m : Nat) (s : Bs) (ls : List Bs), s.length < m → s.length + 3 < F → s.length ≤ 1000000 → ls.length + s.length ≤ 1000000 →
    head_lines_L2 F m (s, ls) = some (match ln m s with
      | none => ([], [], false)
      | some (l, r) => (ls ++ l, r, decide (((ls ++ l).length : Int) ≤ 50))) := by
  intro m
  induction m with
  | zero => intro s ls h; omega
  | succ m ih =>
    intro s ls hm hF hs hl
    show head_lines_B2 F (head_lines_L2 F m) s ls = _
    unfold head_lines_B2
    rw [lt_eq, ln]
    by_cases hp : Go.Lib.hasPrefix s [13, 10] = true
    · have h2 : 2 ≤ s.length := by
        have := (List.isPrefixOf_iff_prefix.1 hp).length_le
        simpa using this
      rw [hp, ntr, cfl, if_pos rfl]
      unfold head_lines_j1
      rw [grd_To (by omega), lt_eq, show (2 : Int) = ((2 : Nat) : Int) from rfl, from_nat]
      dsimp only
      rw [List.append_nil]
    · rw [if_neg hp]
      have hp2 : Go.Lib.hasPrefix s [13, 10] = false := by simpa using hp
      rw [hp2, nfl, ctr]
      have := in_loop s ls (head_lines_L2 F m) hs F 0 (by omega) (by omega) (.inl rfl)
      refine Eq.trans this ?_
      rw [List.drop_zero]
      cases he : en s with
      | none => rfl
      | some n =>
        have ⟨n1, n2⟩ := en_le he
        dsimp only
        unfold head_lines_j2
        rw [Nat.zero_add, grd_To (by omega), lt_eq, to_nat, grd_To (by omega), lt_eq, from_nat, grd_Cat (by simp; omega), lt_eq, ih _ _ (by simp; omega) (by simp; omega) (by simp; omega) (by simp; omega)]
        cases ln m (s.drop n) with
        | none => rfl
        | some z =>
          obtain ⟨l, r⟩ := z
          dsimp only
          rw [List.append_assoc]; rfl
theorem ln_more : ∀ (m k : Nat) (s : Bs), s.length < m → s.length < k → ln m s = ln k s := by
  intro m
  induction m with
  | zero => intro k s h; omega
  | succ m ih =>
    intro k s h1 h2
    obtain ⟨k, rfl⟩ : ∃ j, k = j + 1 := ⟨k - 1, by omega⟩
    rw [ln, ln]
    split
    · rfl
    · cases he : en s with
      | none => rfl
      | some n =>
        have ⟨n1, n2⟩ := en_le he
        dsimp only
        rw [ih k (s.drop n) (by simp; omega) (by simp; omega)]
def lnOf (s : Bs) : Option (List Bs × Bs) := ln (s.length + 1) s
theorem ln_sum : ∀ (m : Nat) (s : Bs) {l : List Bs} {r : Bs}, ln m s = some (l, r) → Str.total l + 2 + r.length = s.length := by
  intro m
  induction m with
  | zero => intro s l r h; cases h
  | succ m ih =>
    intro s l r h
    rw [ln] at h
    by_cases hp : Go.Lib.hasPrefix s [13, 10] = true
    · have h2 : 2 ≤ s.length := by
        have := (List.isPrefixOf_iff_prefix.1 hp).length_le
        simpa using this
      rw [if_pos hp] at h
      cases h
      simp [Str.total]; omega
    · rw [if_neg hp] at h
      cases he : en s with
      | none => rw [he] at h; cases h
      | some n =>
        have ⟨n1, n2⟩ := en_le he
        rw [he] at h
        dsimp only at h
        cases hr : ln m (s.drop n) with
        | none => rw [hr] at h; cases h
        | some z =>
          obtain ⟨l2, r2⟩ := z
          rw [hr] at h
          cases h
          have := ih _ hr
          simp [Str.total] at this ⊢; omega
noncomputable def rdT (s : Bs) : Bs × Bs := ((readOf s).1, (readOf s).2.1)
noncomputable def rdB (s : Bs) : Bool := decide ((readOf s).2.2 = 0)
noncomputable def cutOf (s : Bs) : List (Bs × Bs) × Bs × Int := match lnOf s with
  | none => ([], [], 2)
  | some (l, r) => bif decide (l.length ≤ 50) && l.all rdB then (l.map rdT, r, 0) else ([], [], 2)
theorem each_loop (F : Nat) (hF : 900000 < F) (l : List Bs) (hl : l.length ≤ 1000000) (hw : ∀ w ∈ l, w.length ≤ 250000) : ∀ (m i : Nat) (hs : List (Bs × Bs)), l.length - i < m → i ≤ l.length → hs.length ≤ i →
    ∃ c : Int, head_eachR_L1 F l m (hs, (i : Int)) = some (bif (l.drop i).all rdB then (hs ++ (l.drop i).map rdT, 0) else ([], c)) ∧ c ≠ 0 := by
  intro m
  induction m with
  | zero => intro i hs h; omega
  | succ m ih =>
    intro i hs hm hi hh
    show ∃ c : Int, head_eachR_B1 F l (head_eachR_L1 F l m) hs (i : Int) = _ ∧ _
    unfold head_eachR_B1 head_eachR_j1
    by_cases h : i < l.length
    · have hd : l.drop i = l[i] :: l.drop (i + 1) := List.drop_eq_getElem_cons h
      obtain ⟨c, h1, h2⟩ := ih (i + 1) (hs ++ [rdT l[i]]) (by omega) (by omega) (by simp; omega)
      rw [bT (by omega), grd_At (by omega), lt_eq, at_nat h, Read_eq F _ (hw _ (List.getElem_mem h)) hF, hd, List.all_cons]
      have e : readOf l[i] = ((rdT l[i]).1, (rdT l[i]).2, (readOf l[i]).2.2) := rfl
      rw [e, bnd3_some]
      by_cases hz : (readOf l[i]).2.2 = 0
      · have hb : rdB l[i] = true := decide_eq_true hz
        refine ⟨c, ?_, h2⟩
        rw [decide_eq_true hz, ntr, cfl, grd_Cat (by simp; omega), lt_eq, grd_I (by omega), cast_succ, h1, hb, tand, List.map_cons, List.append_assoc]
        rfl
      · have hb : rdB l[i] = false := decide_eq_false hz
        refine ⟨(readOf l[i]).2.2, ?_, hz⟩
        rw [decide_eq_false hz, nfl, ctr, hb, fand, cfl]
    · have hd : l.drop i = [] := List.drop_eq_nil_of_le (by omega)
      rw [bF (by omega), hd]
      exact ⟨1, by simp, by omega⟩
theorem Cut_eq (F : Nat) (hF : 900000 < F) (s : Bs) (hs : s.length ≤ 250000) : head_Cut F s = some (cutOf s) := by
  have hl := lines_loop F F s [] (by omega) (by omega) (by omega) (by simp; omega)
  unfold head_Cut cutOf lnOf
  have hl2 : head_lines F s = _ := hl
  rw [hl2, ln_more F (s.length + 1) s (by omega) (by omega)]
  cases hn : ln (s.length + 1) s with
  | none => rfl
  | some z =>
    obtain ⟨l, r⟩ := z
    have hsum := ln_sum _ _ hn
    dsimp only
    rw [List.nil_append, bnd3_some]
    by_cases h50 : l.length ≤ 50
    · obtain ⟨c, h1, h2⟩ := each_loop F hF l (by omega) (fun w hw => by have := mem_total hw; omega) F 0 [] (by omega) (by omega) (by simp)
      have h1' : head_eachR F l = _ := h1
      rw [decide_eq_true (show (l.length : Int) ≤ 50 by omega), decide_eq_true h50, ntr, cfl, tand, h1', List.drop_zero]
      cases l.all rdB with
      | true => rw [ctr, ctr, bnd2_some, decide_eq_true rfl, ntr, cfl, grd_S (by omega), lt_eq, List.nil_append]
      | false => rw [cfl, cfl, bnd2_some, decide_eq_false h2, nfl, ctr]
    · rw [decide_eq_false (show ¬ (l.length : Int) ≤ 50 by omega), decide_eq_false h50, nfl, ctr, fand, cfl]
theorem hp2 (s : Bs) : Go.Lib.hasPrefix s [13, 10] = (decide (2 ≤ s.length) && (decide (gb s 0 = 13) && decide (gb s 1 = 10))) := by
  unfold Go.Lib.hasPrefix
  match s with
  | [] => rfl
  | [x] => simp [List.isPrefixOf]
  | x :: y :: r =>
    simp only [List.isPrefixOf, List.length_cons, Bool.and_true]
    rw [decide_eq_true (show 2 ≤ r.length + 1 + 1 by omega), tand]
    show (13 == x && 10 == y) = (decide (x = 13) && decide (y = 10))
    rw [bq, bq, Bool.beq_comm, Bool.beq_comm (a := (10 : UInt8))]
theorem rcut_step (F : Nat) (hF : 900000 < F) : ∀ (m : Nat) (s : Bs) (hs : List (Bs × Bs)), s.length < m → s.length ≤ 250000 → hs.length ≤ 50 →
    ref14_Cut_L1 F m (s, hs) = some (match ln m s with
      | none => ([], [], 2)
      | some (l, r) => bif decide (hs.length + l.length ≤ 50) && l.all rdB then (hs ++ l.map rdT, r, 0) else ([], [], 2)) := by
  intro m
  induction m with
  | zero => intro s hs h; omega
  | succ m ih =>
    intro s hs hm hl h50
    show ref14_Cut_B1 F (ref14_Cut_L1 F m) s hs = _
    unfold ref14_Cut_B1
    rw [bT (by omega), ln, hp2]
    have hG : ∀ k : UInt8 → UInt8 → Option (List (Bs × Bs) × Bs × Int), (grdc (decide (2 ≤ (s.length : Int))) (okAt 0 s.length) <| lt (at_ s 0) fun x15 => grdc ((decide (2 ≤ (s.length : Int))) && (decide (x15 = 13))) (okAt 1 s.length) <| lt (at_ s 1) fun x19 => k x15 x19) = k (gb s 0) (gb s 1) := fun k => by
      by_cases h2 : 2 ≤ s.length
      · rw [decide_eq_true (show 2 ≤ (s.length : Int) by omega), grdc_t, grd_At (by omega), lt_eq, tand, show okAt 1 s.length = true from decide_eq_true (by omega)]
        have e0 : at_ s 0 = gb s 0 := rfl
        have e1 : at_ s 1 = gb s 1 := rfl
        rw [e0, e1]
        cases decide (gb s 0 = 13) <;> rfl
      · rw [decide_eq_false (show ¬ 2 ≤ (s.length : Int) by omega), grdc_f, lt_eq, fand, grdc_f, lt_eq]; rfl
    rw [hG]
    have e2 : decide (2 ≤ (s.length : Int)) = decide (2 ≤ s.length) := decide_eq_decide.2 (by omega)
    rw [e2, Bool.and_assoc]
    cases hp : (decide (2 ≤ s.length) && (decide (gb s 0 = 13) && decide (gb s 1 = 10))) with
    | true =>
      have h2 : 2 ≤ s.length := by
        simp only [Bool.and_eq_true, decide_eq_true_eq] at hp; exact hp.1
      rw [ctr, if_pos rfl, grd_To (by omega), lt_eq, show (2 : Int) = ((2 : Nat) : Int) from rfl, from_nat, grd_Cat (by simp; omega)]
      simp [h50]
    | false =>
      rw [cfl, if_neg (by simp), end_eq F s (by omega) (by omega), bnd_some]
      cases he : en s with
      | none => rw [decide_eq_true (show (-1 : Int) < 0 by omega), Bool.true_or, ctr]
      | some n =>
        have ⟨n1, n2⟩ := en_le he
        dsimp only
        rw [decide_eq_false (show ¬ (n : Int) < 0 by omega), Bool.false_or]
        by_cases hh : hs.length = 50
        · rw [decide_eq_true (show (hs.length : Int) = 50 by omega), ctr]
          cases ln m (s.drop n) with
          | none => rfl
          | some z =>
            obtain ⟨l, r⟩ := z
            dsimp only
            rw [decide_eq_false (by simp; omega), fand, cfl]
        · rw [decide_eq_false (show ¬ (hs.length : Int) = 50 by omega), cfl, grd_To (by omega), lt_eq, to_nat, rRead_eq F _ (by simp; omega) hF]
          have e : readOf (s.take n) = ((rdT (s.take n)).1, (rdT (s.take n)).2, (readOf (s.take n)).2.2) := rfl
          rw [e, bnd3_some]
          by_cases hz : (readOf (s.take n)).2.2 = 0
          · have hb : rdB (s.take n) = true := decide_eq_true hz
            rw [decide_eq_true hz, ntr, cfl, grd_Cat (by simp; omega), lt_eq, grd_To (by omega), lt_eq, from_nat, ih _ _ (by simp; omega) (by simp; omega) (by simp; omega)]
            cases ln m (s.drop n) with
            | none => rfl
            | some z =>
              obtain ⟨l, r⟩ := z
              dsimp only
              rw [List.all_cons, hb, tand, List.map_cons, List.append_assoc, List.length_append, List.length_cons, List.length_cons, List.length_nil]
              rw [show hs.length + (0 + 1) + l.length = hs.length + (l.length + 1) by omega]
              rfl
          · have hb : rdB (s.take n) = false := decide_eq_false hz
            rw [decide_eq_false hz, nfl, ctr]
            cases ln m (s.drop n) with
            | none => rfl
            | some z =>
              obtain ⟨l, r⟩ := z
              dsimp only
              rw [List.all_cons, hb, fand, Bool.and_false, cfl]
theorem rCut_eq (F : Nat) (hF : 900000 < F) (s : Bs) (hs : s.length ≤ 250000) : ref14_Cut F s = some (cutOf s) := by
  have := rcut_step F hF F s [] (by omega) hs (by simp)
  unfold ref14_Cut cutOf lnOf
  refine Eq.trans this ?_
  rw [ln_more F (s.length + 1) s (by omega) (by omega)]
  cases ln (s.length + 1) s with
  | none => rfl
  | some z =>
    obtain ⟨l, r⟩ := z
    dsimp only
    rw [List.length_nil, Nat.zero_add, List.nil_append]
theorem rsame_loop (l : List (Bs × Bs)) (hl : l.length ≤ 1000000) : ∀ (n i : Nat), l.length - i < n → i ≤ l.length → ref14_Same_L1 l l n (i : Int) = some true := by
  intro n
  induction n with
  | zero => intro i h; omega
  | succ n ih =>
    intro i hn hi
    show ref14_Same_B1 l l (ref14_Same_L1 l l n) (i : Int) = _
    unfold ref14_Same_B1 ref14_Same_j1
    by_cases h : i < l.length
    · rw [bT (by omega), grd_At (by omega), lt_eq, at_nat h, grd_At (by omega), lt_eq, decide_eq_true rfl, decide_eq_true rfl, tand, ntr, cfl, grd_I (by omega), cast_succ, ih (i + 1) (by omega) (by omega)]
    · rw [bF (by omega)]
theorem rSame_eq (F : Nat) (l : List (Bs × Bs)) (hl : l.length ≤ 1000000) (hF : l.length < F) : ref14_Same F l l = some true := by
  unfold ref14_Same
  rw [decide_eq_true rfl, ntr, cfl]
  exact rsame_loop l hl F 0 (by omega) (by omega)
theorem cutOf_len (s : Bs) : (cutOf s).1.length ≤ 50 := by
  unfold cutOf
  cases lnOf s with
  | none => simp
  | some z =>
    obtain ⟨l, r⟩ := z
    dsimp only
    cases hh : (decide (l.length ≤ 50) && l.all rdB) with
    | true =>
      simp only [Bool.and_eq_true, decide_eq_true_eq] at hh
      rw [ctr, List.length_map]; exact hh.1
    | false => rw [cfl]; simp
end Go.Hd
namespace Go.Hd
open Go.Pv Go.Av
theorem awake_eq : law14_awake 1000000 = some true := by decide +kernel
theorem HeadReads_F (F : Nat) (hF : 900000 < F) (hw : law14_awake F = some true) (a : Bs) : law14_HeadReads F a = some true := by
  unfold law14_HeadReads
  rw [hw, bnd_some]
  by_cases h : 2000 < (a.length : Int)
  · rw [decide_eq_true h]; rfl
  · have hc := cutOf_len a
    rw [decide_eq_false h, ntr, fo, cfl, Read_eq F a (by omega) hF, rRead_eq F a (by omega) hF, Cut_eq F hF a (by omega), rCut_eq F hF a (by omega)]
    generalize readOf a = r
    generalize cutOf a = c at hc
    obtain ⟨r1, r2, r3⟩ := r
    obtain ⟨c1, c2, c3⟩ := c
    dsimp only at hc
    rw [bnd3_some, bnd3_some, bnd3_some, bnd3_some, rSame_eq F c1 (by omega) (by omega), bnd_some]
    simp
theorem HeadReads_t (a : Bs) : law14_HeadReads 1000000 a = some true := HeadReads_F 1000000 (by omega) awake_eq a
end Go.Hd
