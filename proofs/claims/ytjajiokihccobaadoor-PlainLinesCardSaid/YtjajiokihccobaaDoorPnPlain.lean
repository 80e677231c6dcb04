/-
  Plain texts without marks and entities. No program is spoken of.
-/
import Derived.Test.YtjajiokihccobaaDoorPnSplit
import Derived.Test.YtjajiokihccobaaDoorPlainLP
set_option linter.unusedVariables false
set_option linter.unusedSimpArgs false
namespace Go.Pn
open Go.Pv Go.Av

theorem awake11 : law11_awake 3000 = some true := by decide +kernel

theorem indexByte_no {c : UInt8} {s : Bs} (h : ∀ b ∈ s, b ≠ c) : Go.Lib.indexByte s c = -1 := by
  induction s with
  | nil => rfl
  | cons b r ih => simp [Go.Lib.indexByte, h b (by simp), ih (fun x hx => h x (by simp [hx]))]

theorem loose_plain (F : Nat) (s : Bs) (hF : 0 < F) (hs : s.length ≤ 1000000) (h : ∀ b ∈ s, b ≠ 38) : ent_Loose F s = some s := by
  obtain ⟨n, rfl⟩ : ∃ n, F = n + 1 := ⟨F - 1, by omega⟩
  have : ent_gone (n + 1) s = some (s, true) := by
    show ent_gone_B1 (n + 1) (ent_gone_L1 (n + 1) n) s true [] = _
    unfold ent_gone_B1
    simp (disch := (first | omega | (simp; done) | (simp; omega))) only [lt_eq, indexByte_no h, bT, grd_W, List.nil_append]
  unfold ent_Loose
  rw [this]; rfl

/-- The lines of pieces. -/
def linesOf : List Bs → List Bs
  | [] => []
  | p :: r => if trim p = [] then linesOf r else trim p :: linesOf r

theorem of_loop (F : Nat) (ps : List Bs) (qs : List Bs) (hF : 2000000 < F ∨ ∀ q ∈ qs, q.length + 1 < F) (hq : qs.length = ps.length) (hp : ps.length ≤ 1000000) (hl : ∀ (i : Nat) (h : i < ps.length), ent_Loose F ps[i] = some (qs[i]'(by omega)))
    (hb : ∀ q ∈ qs, q.length ≤ 1000000) (hJ : (linesOf qs).length + Str.total (linesOf qs) ≤ 100000000) : ∀ (n : Nat) (i : Nat) (out : List Bs), ps.length - i < n → i ≤ ps.length → out.length ≤ i → out ++ linesOf (qs.drop i) = linesOf qs →
    plain_Of_L1 F ps n (out, (i : Int)) = some (Str.join [10] (linesOf qs)) := by
  intro n
  induction n with
  | zero => intro i out h; omega
  | succ n ih =>
    intro i out hn hi ho hout
    show plain_Of_B1 F ps (plain_Of_L1 F ps n) out (i : Int) = _
    unfold plain_Of_B1 plain_Of_j2 plain_Of_j1
    by_cases h : i < ps.length
    · have h' : i < qs.length := by omega
      have hd : qs.drop i = qs[i] :: qs.drop (i + 1) := List.drop_eq_getElem_cons h'
      have htr : ent_Trim F qs[i] = some (trim qs[i]) := ent_Trim_eq F _ (hb _ (List.getElem_mem h')) (by
        have h1 := hb _ (List.getElem_mem h')
        rcases hF with hF | hF
        · omega
        · exact hF _ (List.getElem_mem h'))
      simp (disch := omega) only [bT, grd_At, lt_eq, at_nat h, hl i h, bnd_some, htr, grd_I, cast_succ]
      rw [hd] at hout
      by_cases h0 : trim qs[i] = []
      · simp only [h0, decide_true, Bool.not_true, cond_false]
        exact ih _ _ (by omega) (by omega) (by omega) (by simpa [linesOf, h0] using hout)
      · simp (disch := (first | omega | (simp; done) | (simp; omega))) only [h0, decide_false, Bool.not_false, cond_true, grd_Cat]
        exact ih _ _ (by omega) (by omega) (by simp; omega) (by simpa [linesOf, h0] using hout)
    · have hi2 : i = ps.length := by omega
      subst hi2
      rw [← hq, List.drop_length] at hout
      simp only [linesOf, List.append_nil] at hout
      subst hout
      simp (disch := (first | omega | (simp; done) | (simp; omega))) only [bF, grd_Join, lt_eq]

theorem trim_len (s : Bs) : (trim s).length ≤ s.length := by
  have h : ∀ s : Bs, (trim s).length ≤ s.length ∧ (T1 s).length ≤ s.length ∧ (T2 s).length ≤ s.length + 1 ∧ (s ≠ [] → (T2 s).length ≤ s.length + 1) := by
    intro s
    induction s with
    | nil => simp [trim, T1, T2]
    | cons c r ih =>
      obtain ⟨h1, h2, h3, _⟩ := ih
      cases hb : bl c <;> simp [trim, T1, T2, hb] <;> omega
  exact (h s).1

theorem of_plain (s : Bs) (hs : s.length ≤ 1000) (h : ∀ b ∈ s, b ≠ 60 ∧ b ≠ 38) : plain_Of 3000 s = some (trim s) := by
  have h1 : cut_all 3000 s [] [] = some [s] := by
    unfold cut_all plain_breaking
    simp only [bnd_some]
    unfold cut_all_B1
    simp (disch := (first | omega | (simp; done) | (simp; omega))) only [lt_eq, indexByte_no (fun b hb => (h b hb).1), bT, grd_W, List.nil_append]
    have : cut_end 3000 s [] s = some [s] := by
      unfold cut_end cut_end_j1
      simp (disch := (first | omega | (simp; done) | (simp; omega))) only [grd_W, grd_Cat, lt_eq, List.nil_append]
    rw [this]; rfl
  unfold plain_Of
  rw [h1, bnd_some]
  have htl := trim_len s
  have := of_loop 3000 [s] [s] (.inr (by simp; omega)) rfl (by simp) (fun i hi => by
    have : i = 0 := by simpa using hi
    subst this
    exact loose_plain 3000 s (by omega) (by omega) (fun b hb => (h b hb).2)) (by simp; omega) (by by_cases h0 : trim s = [] <;> simp [linesOf, h0, Str.total]; omega) 3000 0 [] (by simp) (by simp) (by simp) rfl
  rw [show ((0 : Nat) : Int) = 0 from rfl] at this
  rw [this]
  by_cases h0 : trim s = [] <;> simp [linesOf, h0, Str.join, Str.rest]

theorem PlainSame_t (s : Bs) : law11_PlainSame 3000 s = some true := by
  unfold law11_PlainSame
  rw [awake11, bnd_some]
  by_cases hl : 1000 < s.length
  · have : (1000 : Int) < (s.length : Int) := by omega
    simp [this]
  · have hn : ¬ (1000 : Int) < (s.length : Int) := by omega
    simp only [hn, decide_false, Bool.not_true, Bool.or_false, cond_false]
    have key : ∀ (n i : Nat), s.length - i < n → i ≤ s.length → (∀ b ∈ s.take i, b ≠ 60 ∧ b ≠ 38) → law11_PlainSame_L1 3000 s n (i : Int) = some true := by
      intro n
      induction n with
      | zero => intro i h; omega
      | succ n ih =>
        intro i hn hi hb
        show law11_PlainSame_B1 3000 s (law11_PlainSame_L1 3000 s n) (i : Int) = _
        unfold law11_PlainSame_B1
        by_cases h : i < s.length
        · simp (disch := omega) only [bT, grd_At, grdc_At, lt_eq, at_nat h, grd_I, cast_succ]
          by_cases hc : s[i] = 60 ∨ s[i] = 38
          · rcases hc with hc | hc <;> simp [hc]
          · have h1 : s[i] ≠ 60 := fun e => hc (.inl e)
            have h2 : s[i] ≠ 38 := fun e => hc (.inr e)
            simp only [h1, h2, decide_false, Bool.or_self, cond_false]
            refine ih _ (by omega) (by omega) ?_
            rw [List.take_succ_eq_append_getElem h]
            intro b hb2
            rcases List.mem_append.1 hb2 with hb2 | hb2
            · exact hb b hb2
            · simp at hb2; subst hb2; exact ⟨h1, h2⟩
        · have hi2 : i = s.length := by omega
          subst hi2
          simp (disch := omega) only [bF]
          unfold law11_PlainSame_j1
          rw [List.take_length] at hb
          rw [of_plain s (by omega) hb, bnd_some, ref07_Trim_eq 3000 s (by omega) (by omega), bnd_some]
          simp
    exact key 3000 0 (by omega) (by omega) (by simp)
end Go.Pn
