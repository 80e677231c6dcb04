/-
  Words and lines. No program is spoken of.
-/
import Derived.Test.YtjajiokihccobaaDoorPnPlain
set_option linter.unusedVariables false
set_option linter.unusedSimpArgs false
namespace Go.Pn
open Go.Pv Go.Av

/-- A word: not empty, and no blank in it. -/
def Wd (w : Bs) : Prop := w ≠ [] ∧ ∀ b ∈ w, bl b = false

theorem bl32 : bl 32 = true := by decide
theorem bl_ne {c : UInt8} (h : bl c = false) : c ≠ 32 := by rintro rfl; rw [bl32] at h; cases h

theorem prep_wd {c : UInt8} {l : List Bs} (hc : bl c = false) (h : ∀ w ∈ l, Wd w) : ∀ w ∈ prep [c] l, Wd w := by
  cases l with
  | nil => intro w hw; simp [prep] at hw; subst hw; exact ⟨by simp, by simpa using hc⟩
  | cons p r =>
    intro w hw
    simp only [prep, List.mem_cons] at hw
    rcases hw with rfl | hw
    · exact ⟨by simp, fun b hb => by
        rcases List.mem_cons.1 hb with rfl | hb
        · exact hc
        · exact (h p (by simp)).2 b hb⟩
    · exact h w (by simp [hw])

/-- The words of a trimmed text. -/
theorem T_words (s : Bs) : ∀ c, bl c = false → (∀ w ∈ sp 32 (c :: T1 s), Wd w) ∧ (∀ w ∈ sp 32 (c :: T2 s), Wd w) := by
  induction s with
  | nil =>
    intro c hc
    have : ∀ w ∈ sp 32 [c], Wd w := by
      rw [sp_cons_ne (bl_ne hc)]
      intro w hw
      have : w = [c] := by simpa [sp, prep] using hw
      subst this; exact ⟨by simp, by simpa using hc⟩
    exact ⟨by simpa [T1] using this, by simpa [T2] using this⟩
  | cons d r ih =>
    intro c hc
    cases hd : bl d with
    | true => exact ⟨by simpa [T1, hd] using (ih c hc).2, by simpa [T2, hd] using (ih c hc).2⟩
    | false =>
      have e1 : T1 (d :: r) = d :: T1 r := by simp [T1, hd]
      have e2 : T2 (d :: r) = 32 :: d :: T1 r := by simp [T2, hd]
      rw [e1, e2]
      refine ⟨?_, ?_⟩
      · rw [sp_cons_ne (bl_ne hc)]
        exact prep_wd hc (ih d hd).1
      · rw [sp_cons_ne (bl_ne hc), sp_cons_eq]
        intro w hw
        simp only [prep, List.mem_cons] at hw
        rcases hw with rfl | hw
        · exact ⟨by simp, by simpa using hc⟩
        · exact (ih d hd).1 w hw

theorem trim_words (s : Bs) (h : trim s ≠ []) : ∀ w ∈ sp 32 (trim s), Wd w := by
  induction s with
  | nil => simp [trim] at h
  | cons c r ih =>
    cases hc : bl c with
    | true => simp only [trim, hc, cond_true] at h ⊢; exact ih h
    | false => simp only [trim, hc, cond_false] at h ⊢; exact (T_words r c hc).1

theorem T1_app (w s : Bs) (h : ∀ b ∈ w, bl b = false) : T1 (w ++ s) = w ++ T1 s := by
  induction w with
  | nil => rfl
  | cons c r ih => simp [T1, h c (by simp), ih (fun b hb => h b (by simp [hb]))]
theorem T1_rest (ws : List Bs) (h : ∀ w ∈ ws, Wd w) : T1 (Str.rest [32] ws) = Str.rest [32] ws := by
  induction ws with
  | nil => simp [Str.rest, T1]
  | cons w r ih =>
    have ih' := ih (fun x hx => h x (by simp [hx]))
    obtain ⟨hw, hb⟩ := h w (by simp)
    cases w with
    | nil => exact absurd rfl hw
    | cons c v =>
      have e := T1_app v (Str.rest [32] r) (fun b hb2 => hb b (by simp [hb2]))
      have hc := hb c (by simp)
      simp [Str.rest, T1, T2, bl32, hc, e, ih']
theorem trim_join (w : Bs) (g : List Bs) (h : ∀ x ∈ w :: g, Wd x) : trim (Str.join [32] (w :: g)) = Str.join [32] (w :: g) := by
  obtain ⟨hw, hb⟩ := h w (by simp)
  cases w with
  | nil => exact absurd rfl hw
  | cons c v =>
    have e := T1_app v (Str.rest [32] g) (fun b hb2 => hb b (by simp [hb2]))
    have e2 := T1_rest g (fun x hx => h x (by simp [hx]))
    have hc := hb c (by simp)
    simp [Str.join, trim, hc, e, e2]
theorem sp_app (c : UInt8) (w s : Bs) (h : ∀ b ∈ w, b ≠ c) : sp c (w ++ s) = prep w (sp c s) := by
  induction w with
  | nil => rw [List.nil_append, prep_nil (sp_ne _ _)]
  | cons b r ih =>
    rw [List.cons_append, sp_cons_ne (h b (by simp)), ih (fun x hx => h x (by simp [hx])), prep_prep]; rfl
theorem sp_rest (ws : List Bs) (h : ∀ w ∈ ws, ∀ b ∈ w, b ≠ 32) : sp 32 (Str.rest [32] ws) = [] :: ws := by
  induction ws with
  | nil => rfl
  | cons w r ih =>
    have ih' := ih (fun x hx => h x (by simp [hx]))
    show sp 32 ([32] ++ w ++ Str.rest [32] r) = _
    rw [List.append_assoc, List.singleton_append, sp_cons_eq, sp_app 32 w _ (h w (by simp)), ih']
    simp [prep]
theorem sp_join (w : Bs) (g : List Bs) (h : ∀ x ∈ w :: g, Wd x) : sp 32 (Str.join [32] (w :: g)) = w :: g := by
  show sp 32 (w ++ Str.rest [32] g) = _
  rw [sp_app 32 w _ (fun b hb => bl_ne ((h w (by simp)).2 b hb)), sp_rest g (fun x hx b hb => bl_ne ((h x (by simp [hx])).2 b hb))]
  simp [prep]
theorem rest_app (sep : Bs) (a b : List Bs) : Str.rest sep (a ++ b) = Str.rest sep a ++ Str.rest sep b := by
  induction a with
  | nil => rfl
  | cons x r ih => simp [Str.rest, ih]
theorem join_app (sep : Bs) (a : List Bs) (x : Bs) (h : a ≠ []) : Str.join sep (a ++ [x]) = Str.join sep a ++ sep ++ x := by
  cases a with
  | nil => exact absurd rfl h
  | cons y r => simp [Str.join, rest_app, Str.rest]
theorem prep_rest (w : Bs) (l : List Bs) (h : l ≠ []) : Str.join [32] (prep w l) = w ++ Str.join [32] l := by
  cases l with
  | nil => exact absurd rfl h
  | cons p r => simp [prep, Str.join]
theorem join_sp (s : Bs) : Str.join [32] (sp 32 s) = s := by
  induction s with
  | nil => rfl
  | cons b r ih =>
    by_cases h : b = 32
    · subst h
      rw [sp_cons_eq]
      cases he : sp 32 r with
      | nil => exact absurd he (sp_ne _ _)
      | cons p ps => rw [he] at ih; simp [Str.join, Str.rest] at ih ⊢; exact ih
    · rw [sp_cons_ne h, prep_rest _ _ (sp_ne _ _), ih]; rfl

/-- Words into lines. -/
def wr (n : Nat) (l : Bs) : List Bs → List Bs
  | [] => [l]
  | w :: r => if l.length + 1 + w.length ≤ n then wr n (l ++ ([32] ++ w)) r else l :: wr n w r

/-- What lines are like. -/
def LOk (n : Nat) : Option Bs → List Bs → Prop
  | _, [] => True
  | p, l :: r => (∃ w g, (∀ x ∈ w :: g, Wd x) ∧ l = Str.join [32] (w :: g) ∧ (l.length ≤ n ∨ g = []) ∧ (∀ q, p = some q → n < q.length + 1 + w.length)) ∧ LOk n (some l) r

theorem wr_ok (n : Nat) : ∀ (ws : List Bs) (w : Bs) (g : List Bs) (p : Option Bs), (∀ x ∈ ws, Wd x) → (∀ x ∈ w :: g, Wd x) → ((Str.join [32] (w :: g)).length ≤ n ∨ g = []) → (∀ q, p = some q → n < q.length + 1 + w.length) →
    LOk n p (wr n (Str.join [32] (w :: g)) ws)
  | [], w, g, p, _, h, hn, hp => ⟨⟨w, g, h, rfl, hn, hp⟩, trivial⟩
  | v :: r, w, g, p, hws, h, hn, hp => by
    unfold wr
    by_cases hc : (Str.join [32] (w :: g)).length + 1 + v.length ≤ n
    · rw [if_pos hc]
      have e : Str.join [32] (w :: g) ++ ([32] ++ v) = Str.join [32] (w :: (g ++ [v])) := by
        have := join_app [32] (w :: g) v (by simp)
        rw [List.cons_append] at this; rw [this]; simp
      have el : (Str.join [32] (w :: (g ++ [v]))).length ≤ n := by rw [← e]; simp; omega
      rw [e]
      exact wr_ok n r w (g ++ [v]) p (fun x hx => hws x (by simp [hx])) (fun x hx => by
        rw [← List.cons_append] at hx
        rcases List.mem_append.1 hx with hx | hx
        · exact h x hx
        · have : x = v := by simpa using hx
          subst this; exact hws x (by simp)) (.inl el) hp
    · rw [if_neg hc]
      refine ⟨⟨w, g, h, rfl, hn, hp⟩, ?_⟩
      have := wr_ok n r v [] (some (Str.join [32] (w :: g))) (fun x hx => hws x (by simp [hx])) (by intro x hx; have : x = v := by simpa using hx
                                                                                                    subst this; exact hws x (by simp)) (.inr rfl) (fun q hq => by cases hq; omega)
      have e : Str.join [32] [v] = v := by simp [Str.join, Str.rest]
      rwa [e] at this

theorem wr_ne (n : Nat) : ∀ (ws : List Bs) (l : Bs), wr n l ws ≠ []
  | [], l => by simp [wr]
  | w :: r, l => by
    unfold wr
    split
    · exact wr_ne n r _
    · simp
theorem wr_join (n : Nat) : ∀ (ws : List Bs) (l : Bs), Str.join [32] (wr n l ws) = l ++ Str.rest [32] ws
  | [], l => rfl
  | w :: r, l => by
    unfold wr
    split
    · rw [wr_join n r]; simp [Str.rest]
    · have := wr_join n r w
      cases he : wr n w r with
      | nil => exact absurd he (wr_ne n r w)
      | cons p ps =>
        rw [he] at this
        simp [Str.join, Str.rest] at this ⊢; exact this
theorem rest_len (L : List Bs) : (Str.rest [32] L).length = Str.total L + L.length := by
  induction L with
  | nil => rfl
  | cons x r ih => simp [Str.rest, Str.total, ih]; omega
theorem mem_total {L : List Bs} {l : Bs} (h : l ∈ L) : l.length ≤ Str.total L := by
  induction L with
  | nil => cases h
  | cons x r ih =>
    rcases List.mem_cons.1 h with rfl | h
    · simp [Str.total]
    · have := ih h; simp [Str.total]; omega
theorem join_len (L : List Bs) (h : L ≠ []) : (Str.join [32] L).length + 1 = Str.total L + L.length := by
  cases L with
  | nil => exact absurd rfl h
  | cons x r => simp [Str.join, Str.total, rest_len]; omega

theorem LOk_drop {n : Nat} {L : List Bs} {p : Option Bs} (h : LOk n p L) : ∀ i, i < L.length → ∃ w g, (∀ x ∈ w :: g, Wd x) ∧ L[i]? = some (Str.join [32] (w :: g)) ∧ ((Str.join [32] (w :: g)).length ≤ n ∨ g = []) ∧
    (∀ q, (match i with | 0 => p | j + 1 => L[j]?) = some q → n < q.length + 1 + w.length) := by
  induction L generalizing p with
  | nil => intro i hi; simp at hi
  | cons l r ih =>
    intro i hi
    obtain ⟨⟨w, g, h1, h2, h3, h4⟩, h5⟩ := h
    cases i with
    | zero => exact ⟨w, g, h1, by simp [h2], by rw [← h2]; exact h3, h4⟩
    | succ j =>
      obtain ⟨w', g', a1, a2, a3, a4⟩ := ih h5 j (by simpa using hi)
      refine ⟨w', g', a1, by simpa using a2, a3, ?_⟩
      intro q hq
      cases j with
      | zero => exact a4 q (by simpa using hq)
      | succ k => exact a4 q (by simpa using hq)
end Go.Pn
