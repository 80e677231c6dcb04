/-
  The words in which functions' bodies are written again as plain functions. No program is spoken of.
-/
set_option linter.unusedVariables false
namespace Go.Pv
variable {α β γ δ ε ρ σ : Type}

/-- Goes on where something holds. -/
def grd (b : Bool) (k : Option ρ) : Option ρ := bif b then k else none
/-- Goes on where something holds, if it matters. -/
def grdc (c b : Bool) (k : Option ρ) : Option ρ := bif !c || b then k else none
def lt (a : α) (f : α → Option ρ) : Option ρ := f a
def bnd (a : Option α) (f : α → Option ρ) : Option ρ := match a with | some x => f x | none => none
def bnd2 (a : Option (α × β)) (f : α → β → Option ρ) : Option ρ := match a with | some x => f x.1 x.2 | none => none
def bnd3 (a : Option (α × β × γ)) (f : α → β → γ → Option ρ) : Option ρ := match a with | some x => f x.1 x.2.1 x.2.2 | none => none
def bnd4 (a : Option (α × β × γ × δ)) (f : α → β → γ → δ → Option ρ) : Option ρ := match a with | some x => f x.1 x.2.1 x.2.2.1 x.2.2.2 | none => none
def bnd5 (a : Option (α × β × γ × δ × ε)) (f : α → β → γ → δ → ε → Option ρ) : Option ρ := match a with | some x => f x.1 x.2.1 x.2.2.1 x.2.2.2.1 x.2.2.2.2 | none => none
/-- A call that is made only where c holds. -/
def bndc [Inhabited α] (c : Bool) (a : Option α) (f : α → Option ρ) : Option ρ := bif c then bnd a f else f default
def loop (body : (σ → Option ρ) → σ → Option ρ) : Nat → σ → Option ρ
  | 0, _ => none
  | n + 1, x => body (loop body n) x

def at_ [Inhabited α] (l : List α) (i : Int) : α := l.getD i.toNat default
def sub (l : List α) (a b : Int) : List α := (l.take b.toNat).drop a.toNat
def from_ (l : List α) (a : Int) : List α := l.drop a.toNat
def to_ (l : List α) (b : Int) : List α := l.take b.toNat
def okI (n : Int) : Bool := decide (-9223372036854775808 ≤ n ∧ n ≤ 9223372036854775807)
def okJ (n : Int) : Bool := decide (-2147483648 ≤ n ∧ n ≤ 2147483647)
def okAt (i : Int) (n : Nat) : Bool := decide (0 ≤ i ∧ i < n)
def okSub (a b : Int) (n : Nat) : Bool := decide (0 ≤ a ∧ a ≤ b ∧ b ≤ n)
def okTo (b : Int) (n : Nat) : Bool := decide (0 ≤ b ∧ b ≤ n)
def okCat (n : Nat) : Bool := decide (n ≤ 100000000000)
def okDiv (a b : Int) : Bool := decide (0 ≤ a ∧ a ≤ 9223372036854775807 ∧ 1 ≤ b)

theorem grd_s {b : Bool} {k : Option ρ} {r : ρ} (H : grd b k = some r) : b = true ∧ k = some r := by
  cases b
  · cases H
  · exact ⟨rfl, H⟩
theorem grdc_s {c b : Bool} {k : Option ρ} {r : ρ} (H : grdc c b k = some r) : (c = true → b = true) ∧ k = some r := by
  cases c
  · exact ⟨fun h => by (cases h), H⟩
  · cases b
    · cases H
    · exact ⟨fun _ => rfl, H⟩
theorem lt_s {a : α} {f : α → Option ρ} {r : ρ} (H : lt a f = some r) : ∃ x, a = x ∧ f x = some r := ⟨a, rfl, H⟩
theorem bnd_s {a : Option α} {f : α → Option ρ} {r : ρ} (H : bnd a f = some r) : ∃ x, a = some x ∧ f x = some r := by
  cases a with
  | none => cases H
  | some x => exact ⟨x, rfl, H⟩
theorem bnd2_s {a : Option (α × β)} {f : α → β → Option ρ} {r : ρ} (H : bnd2 a f = some r) : ∃ x y, a = some (x, y) ∧ f x y = some r := by
  cases a with
  | none => cases H
  | some x => exact ⟨_, _, rfl, H⟩
theorem bnd3_s {a : Option (α × β × γ)} {f : α → β → γ → Option ρ} {r : ρ} (H : bnd3 a f = some r) : ∃ x y z, a = some (x, y, z) ∧ f x y z = some r := by
  cases a with
  | none => cases H
  | some x => exact ⟨_, _, _, rfl, H⟩
theorem bnd4_s {a : Option (α × β × γ × δ)} {f : α → β → γ → δ → Option ρ} {r : ρ} (H : bnd4 a f = some r) : ∃ x y z u, a = some (x, y, z, u) ∧ f x y z u = some r := by
  cases a with
  | none => cases H
  | some x => exact ⟨_, _, _, _, rfl, H⟩
theorem bnd5_s {a : Option (α × β × γ × δ × ε)} {f : α → β → γ → δ → ε → Option ρ} {r : ρ} (H : bnd5 a f = some r) : ∃ x y z u v, a = some (x, y, z, u, v) ∧ f x y z u v = some r := by
  cases a with
  | none => cases H
  | some x => exact ⟨_, _, _, _, _, rfl, H⟩
theorem bndc_s [Inhabited α] {c : Bool} {a : Option α} {f : α → Option ρ} {r : ρ} (H : bndc c a f = some r) : ∃ x, (c = true → a = some x) ∧ f x = some r := by
  cases c
  · exact ⟨default, fun h => by (cases h), H⟩
  · obtain ⟨x, h1, h2⟩ := bnd_s H
    exact ⟨x, fun _ => h1, h2⟩
theorem cnd_t {b : Bool} {x y : Option ρ} {r : ρ} (h : b = true) (H : (bif b then x else y) = some r) : x = some r := by subst h; exact H
theorem cnd_f {b : Bool} {x y : Option ρ} {r : ρ} (h : b = false) (H : (bif b then x else y) = some r) : y = some r := by subst h; exact H
theorem loop_s {body : (σ → Option ρ) → σ → Option ρ} {n : Nat} {x : σ} {r : ρ} (H : loop body n x = some r) : ∃ m, n = m + 1 ∧ body (loop body m) x = some r := by
  cases n with
  | zero => cases H
  | succ n => exact ⟨n, rfl, H⟩
theorem loop_succ (body : (σ → Option ρ) → σ → Option ρ) (n : Nat) (x : σ) : loop body (n + 1) x = body (loop body n) x := rfl
theorem none_s {r : ρ} {p : Prop} (H : (none : Option ρ) = some r) : p := by cases H

theorem okAt_s {i : Int} {n : Nat} (h : okAt i n = true) : 0 ≤ i ∧ i < n := of_decide_eq_true h
theorem okSub_s {a b : Int} {n : Nat} (h : okSub a b n = true) : 0 ≤ a ∧ a ≤ b ∧ b ≤ n := of_decide_eq_true h
theorem okTo_s {b : Int} {n : Nat} (h : okTo b n = true) : 0 ≤ b ∧ b ≤ n := of_decide_eq_true h
theorem okI_s {n : Int} (h : okI n = true) : -9223372036854775808 ≤ n ∧ n ≤ 9223372036854775807 := of_decide_eq_true h
theorem okJ_s {n : Int} (h : okJ n = true) : -2147483648 ≤ n ∧ n ≤ 2147483647 := of_decide_eq_true h
theorem okCat_s {n : Nat} (h : okCat n = true) : n ≤ 100000000000 := of_decide_eq_true h
theorem okDiv_s {a b : Int} (h : okDiv a b = true) : 0 ≤ a ∧ a ≤ 9223372036854775807 ∧ 1 ≤ b := of_decide_eq_true h

/-- What a function that may panic comes to. -/
inductive Res (ρ : Type) where
  | ok (x : ρ)
  | pan (e : Int)
def bndr (a : Option (Res α)) (f : α → Option (Res ρ)) : Option (Res ρ) := match a with
  | some (.ok x) => f x
  | some (.pan e) => some (.pan e)
  | none => none
theorem bndr_s {a : Option (Res α)} {f : α → Option (Res ρ)} {r : Res ρ} (H : bndr a f = some r) : (∃ x, a = some (.ok x) ∧ f x = some r) ∨ (∃ e, a = some (.pan e) ∧ .pan e = r) := by
  cases a with
  | none => cases H
  | some x => cases x with
    | ok x => exact .inl ⟨x, rfl, H⟩
    | pan e => exact .inr ⟨e, rfl, Option.some.inj H⟩
/-- Where what panics is caught. -/
def bndk (a : Option (Res α)) (k : Int → Option ρ) (f : α → Option ρ) : Option ρ := match a with
  | some (.ok x) => f x
  | some (.pan e) => k e
  | none => none
theorem bndk_s {a : Option (Res α)} {k : Int → Option ρ} {f : α → Option ρ} {r : ρ} (H : bndk a k f = some r) : (∃ x, a = some (.ok x) ∧ f x = some r) ∨ (∃ e, a = some (.pan e) ∧ k e = some r) := by
  cases a with
  | none => cases H
  | some x => cases x with
    | ok x => exact .inl ⟨x, rfl, H⟩
    | pan e => exact .inr ⟨e, rfl, H⟩
theorem bndr_ok {x : α} {f : α → Option (Res ρ)} : bndr (some (.ok x)) f = f x := Eq.symm (Eq.symm rfl)
theorem bndr_pan {e : Int} {f : α → Option (Res ρ)} : bndr (some (.pan e)) f = some (.pan e) := Eq.symm (Eq.symm rfl)
theorem bndk_ok {x : α} {k : Int → Option ρ} {f : α → Option ρ} : bndk (some (.ok x)) k f = f x := Eq.symm (Eq.symm rfl)
theorem bndk_pan {e : Int} {k : Int → Option ρ} {f : α → Option ρ} : bndk (some (.pan e)) k f = k e := Eq.symm (Eq.symm rfl)
theorem resok {a b : α} (H : some (Res.ok a) = some (Res.ok b)) : a = b := by cases H; rfl

/-! What simp takes, with omega for what is asked. -/
section
variable {k : Option ρ}
theorem grd_I {n : Int} (h : -9223372036854775808 ≤ n ∧ n ≤ 9223372036854775807) : grd (okI n) k = k := by rw [okI, decide_eq_true h]; rfl
theorem grd_J {n : Int} (h : -2147483648 ≤ n ∧ n ≤ 2147483647) : grd (okJ n) k = k := by rw [okJ, decide_eq_true h]; rfl
theorem grd_At {i : Int} {n : Nat} (h : 0 ≤ i ∧ i < n) : grd (okAt i n) k = k := by rw [okAt, decide_eq_true h]; rfl
theorem grd_Sub {a b : Int} {n : Nat} (h : 0 ≤ a ∧ a ≤ b ∧ b ≤ n) : grd (okSub a b n) k = k := by rw [okSub, decide_eq_true h]; rfl
theorem grd_To {b : Int} {n : Nat} (h : 0 ≤ b ∧ b ≤ n) : grd (okTo b n) k = k := by rw [okTo, decide_eq_true h]; rfl
theorem grd_Cat {n : Nat} (h : n ≤ 100000000000) : grd (okCat n) k = k := by rw [okCat, decide_eq_true h]; rfl
theorem grd_Div {a b : Int} (h : 0 ≤ a ∧ a ≤ 9223372036854775807 ∧ 1 ≤ b) : grd (okDiv a b) k = k := by rw [okDiv, decide_eq_true h]; rfl
theorem grd_D {p : Prop} [Decidable p] (h : p) : grd (decide p) k = k := by rw [decide_eq_true h]; rfl
theorem grdc_At {c : Bool} {i : Int} {n : Nat} (h : c = true → 0 ≤ i ∧ i < n) : grdc c (okAt i n) k = k := by
  cases c
  · rfl
  · rw [okAt, decide_eq_true (h rfl)]; rfl
theorem grdc_dAt {p : Prop} [Decidable p] {i : Int} {n : Nat} (h : p → 0 ≤ i ∧ i < n) : grdc (decide p) (okAt i n) k = k := grdc_At fun e => h (of_decide_eq_true e)
theorem grdc_f {b : Bool} : grdc false b k = k := by cases b <;> rfl
theorem grdc_t {b : Bool} : grdc true b k = grd b k := by cases b <;> rfl
theorem grd_t : grd true k = k := Eq.symm (Eq.symm rfl)
theorem bnd_some {a : α} {f : α → Option ρ} : bnd (some a) f = f a := Eq.symm (Eq.symm rfl)
theorem bnd2_some {a : α} {b : β} {f : α → β → Option ρ} : bnd2 (some (a, b)) f = f a b := Eq.symm (Eq.symm rfl)
theorem bnd3_some {a : α} {b : β} {c : γ} {f : α → β → γ → Option ρ} : bnd3 (some (a, b, c)) f = f a b c := Eq.symm (Eq.symm rfl)
theorem bndc_some [Inhabited α] {c : Bool} {a : α} {f : α → Option ρ} : bndc c (some a) f = f (bif c then a else default) := by cases c <;> rfl
theorem bndc_f [Inhabited α] {a : Option α} {f : α → Option ρ} : bndc false a f = f default := Eq.symm (Eq.symm rfl)
theorem bndc_t [Inhabited α] {a : Option α} {f : α → Option ρ} : bndc true a f = bnd a f := Eq.symm (Eq.symm rfl)
end

theorem and_tt {a b : Bool} (h : a = true) (g : b = true) : (a && b) = true := by rw [h, g]; rfl
theorem nf {a : Bool} (h : a = false) : (!a) = true := by rw [h]; rfl
theorem fn {a : Bool} (h : (!a) = true) : a = false := by cases a <;> first | rfl | cases h
theorem or_t {c x : Bool} (h : c = true) : true = (c || x) := by rw [h]; rfl
theorem or_f {c x : Bool} (h : c = false) : x = (c || x) := by rw [h]; rfl
theorem and_t {c x : Bool} (h : c = true) : x = (c && x) := by rw [h]; rfl
theorem and_f {c x : Bool} (h : c = false) : false = (c && x) := by rw [h]; rfl
theorem bif_t {c : Bool} {x y : α} (h : c = true) : x = (bif c then x else y) := by rw [h]; rfl
theorem bif_f {c : Bool} {x y : α} (h : c = false) : y = (bif c then x else y) := by rw [h]; rfl
theorem res2 {a b : α} {c d : β} (H : some (a, c) = some (b, d)) : a = b ∧ c = d := by cases H; exact ⟨rfl, rfl⟩
theorem res3 {a b : α} {c d : β} {e f : γ} (H : some (a, c, e) = some (b, d, f)) : a = b ∧ c = d ∧ e = f := by cases H; exact ⟨rfl, rfl, rfl⟩
theorem res4 {a b : α} {c d : β} {e f : γ} {g h : δ} (H : some (a, c, e, g) = some (b, d, f, h)) : a = b ∧ c = d ∧ e = f ∧ g = h := by cases H; exact ⟨rfl, rfl, rfl, rfl⟩
theorem res5 {a b : α} {c d : β} {e f : γ} {g h : δ} {i j : ε} (H : some (a, c, e, g, i) = some (b, d, f, h, j)) : a = b ∧ c = d ∧ e = f ∧ g = h ∧ i = j := by cases H; exact ⟨rfl, rfl, rfl, rfl, rfl⟩

theorem res6 {α0 α1 α2 α3 α4 α5 : Type} {a0 b0 : α0} {a1 b1 : α1} {a2 b2 : α2} {a3 b3 : α3} {a4 b4 : α4} {a5 b5 : α5} (H : some (a0, a1, a2, a3, a4, a5) = some (b0, b1, b2, b3, b4, b5)) : a0 = b0 ∧ a1 = b1 ∧ a2 = b2 ∧ a3 = b3 ∧ a4 = b4 ∧ a5 = b5 := by cases H; exact ⟨rfl, rfl, rfl, rfl, rfl, rfl⟩
theorem res7 {α0 α1 α2 α3 α4 α5 α6 : Type} {a0 b0 : α0} {a1 b1 : α1} {a2 b2 : α2} {a3 b3 : α3} {a4 b4 : α4} {a5 b5 : α5} {a6 b6 : α6} (H : some (a0, a1, a2, a3, a4, a5, a6) = some (b0, b1, b2, b3, b4, b5, b6)) : a0 = b0 ∧ a1 = b1 ∧ a2 = b2 ∧ a3 = b3 ∧ a4 = b4 ∧ a5 = b5 ∧ a6 = b6 := by cases H; exact ⟨rfl, rfl, rfl, rfl, rfl, rfl, rfl⟩
theorem res8 {α0 α1 α2 α3 α4 α5 α6 α7 : Type} {a0 b0 : α0} {a1 b1 : α1} {a2 b2 : α2} {a3 b3 : α3} {a4 b4 : α4} {a5 b5 : α5} {a6 b6 : α6} {a7 b7 : α7} (H : some (a0, a1, a2, a3, a4, a5, a6, a7) = some (b0, b1, b2, b3, b4, b5, b6, b7)) : a0 = b0 ∧ a1 = b1 ∧ a2 = b2 ∧ a3 = b3 ∧ a4 = b4 ∧ a5 = b5 ∧ a6 = b6 ∧ a7 = b7 := by cases H; exact ⟨rfl, rfl, rfl, rfl, rfl, rfl, rfl, rfl⟩
theorem res9 {α0 α1 α2 α3 α4 α5 α6 α7 α8 : Type} {a0 b0 : α0} {a1 b1 : α1} {a2 b2 : α2} {a3 b3 : α3} {a4 b4 : α4} {a5 b5 : α5} {a6 b6 : α6} {a7 b7 : α7} {a8 b8 : α8} (H : some (a0, a1, a2, a3, a4, a5, a6, a7, a8) = some (b0, b1, b2, b3, b4, b5, b6, b7, b8)) : a0 = b0 ∧ a1 = b1 ∧ a2 = b2 ∧ a3 = b3 ∧ a4 = b4 ∧ a5 = b5 ∧ a6 = b6 ∧ a7 = b7 ∧ a8 = b8 := by cases H; exact ⟨rfl, rfl, rfl, rfl, rfl, rfl, rfl, rfl, rfl⟩
theorem res10 {α0 α1 α2 α3 α4 α5 α6 α7 α8 α9 : Type} {a0 b0 : α0} {a1 b1 : α1} {a2 b2 : α2} {a3 b3 : α3} {a4 b4 : α4} {a5 b5 : α5} {a6 b6 : α6} {a7 b7 : α7} {a8 b8 : α8} {a9 b9 : α9} (H : some (a0, a1, a2, a3, a4, a5, a6, a7, a8, a9) = some (b0, b1, b2, b3, b4, b5, b6, b7, b8, b9)) : a0 = b0 ∧ a1 = b1 ∧ a2 = b2 ∧ a3 = b3 ∧ a4 = b4 ∧ a5 = b5 ∧ a6 = b6 ∧ a7 = b7 ∧ a8 = b8 ∧ a9 = b9 := by cases H; exact ⟨rfl, rfl, rfl, rfl, rfl, rfl, rfl, rfl, rfl, rfl⟩
theorem res11 {α0 α1 α2 α3 α4 α5 α6 α7 α8 α9 α10 : Type} {a0 b0 : α0} {a1 b1 : α1} {a2 b2 : α2} {a3 b3 : α3} {a4 b4 : α4} {a5 b5 : α5} {a6 b6 : α6} {a7 b7 : α7} {a8 b8 : α8} {a9 b9 : α9} {a10 b10 : α10} (H : some (a0, a1, a2, a3, a4, a5, a6, a7, a8, a9, a10) = some (b0, b1, b2, b3, b4, b5, b6, b7, b8, b9, b10)) : a0 = b0 ∧ a1 = b1 ∧ a2 = b2 ∧ a3 = b3 ∧ a4 = b4 ∧ a5 = b5 ∧ a6 = b6 ∧ a7 = b7 ∧ a8 = b8 ∧ a9 = b9 ∧ a10 = b10 := by cases H; exact ⟨rfl, rfl, rfl, rfl, rfl, rfl, rfl, rfl, rfl, rfl, rfl⟩
theorem res12 {α0 α1 α2 α3 α4 α5 α6 α7 α8 α9 α10 α11 : Type} {a0 b0 : α0} {a1 b1 : α1} {a2 b2 : α2} {a3 b3 : α3} {a4 b4 : α4} {a5 b5 : α5} {a6 b6 : α6} {a7 b7 : α7} {a8 b8 : α8} {a9 b9 : α9} {a10 b10 : α10} {a11 b11 : α11} (H : some (a0, a1, a2, a3, a4, a5, a6, a7, a8, a9, a10, a11) = some (b0, b1, b2, b3, b4, b5, b6, b7, b8, b9, b10, b11)) : a0 = b0 ∧ a1 = b1 ∧ a2 = b2 ∧ a3 = b3 ∧ a4 = b4 ∧ a5 = b5 ∧ a6 = b6 ∧ a7 = b7 ∧ a8 = b8 ∧ a9 = b9 ∧ a10 = b10 ∧ a11 = b11 := by cases H; exact ⟨rfl, rfl, rfl, rfl, rfl, rfl, rfl, rfl, rfl, rfl, rfl, rfl⟩
theorem res13 {α0 α1 α2 α3 α4 α5 α6 α7 α8 α9 α10 α11 α12 : Type} {a0 b0 : α0} {a1 b1 : α1} {a2 b2 : α2} {a3 b3 : α3} {a4 b4 : α4} {a5 b5 : α5} {a6 b6 : α6} {a7 b7 : α7} {a8 b8 : α8} {a9 b9 : α9} {a10 b10 : α10} {a11 b11 : α11} {a12 b12 : α12} (H : some (a0, a1, a2, a3, a4, a5, a6, a7, a8, a9, a10, a11, a12) = some (b0, b1, b2, b3, b4, b5, b6, b7, b8, b9, b10, b11, b12)) : a0 = b0 ∧ a1 = b1 ∧ a2 = b2 ∧ a3 = b3 ∧ a4 = b4 ∧ a5 = b5 ∧ a6 = b6 ∧ a7 = b7 ∧ a8 = b8 ∧ a9 = b9 ∧ a10 = b10 ∧ a11 = b11 ∧ a12 = b12 := by cases H; exact ⟨rfl, rfl, rfl, rfl, rfl, rfl, rfl, rfl, rfl, rfl, rfl, rfl, rfl⟩
theorem res14 {α0 α1 α2 α3 α4 α5 α6 α7 α8 α9 α10 α11 α12 α13 : Type} {a0 b0 : α0} {a1 b1 : α1} {a2 b2 : α2} {a3 b3 : α3} {a4 b4 : α4} {a5 b5 : α5} {a6 b6 : α6} {a7 b7 : α7} {a8 b8 : α8} {a9 b9 : α9} {a10 b10 : α10} {a11 b11 : α11} {a12 b12 : α12} {a13 b13 : α13} (H : some (a0, a1, a2, a3, a4, a5, a6, a7, a8, a9, a10, a11, a12, a13) = some (b0, b1, b2, b3, b4, b5, b6, b7, b8, b9, b10, b11, b12, b13)) : a0 = b0 ∧ a1 = b1 ∧ a2 = b2 ∧ a3 = b3 ∧ a4 = b4 ∧ a5 = b5 ∧ a6 = b6 ∧ a7 = b7 ∧ a8 = b8 ∧ a9 = b9 ∧ a10 = b10 ∧ a11 = b11 ∧ a12 = b12 ∧ a13 = b13 := by cases H; exact ⟨rfl, rfl, rfl, rfl, rfl, rfl, rfl, rfl, rfl, rfl, rfl, rfl, rfl, rfl⟩
theorem res15 {α0 α1 α2 α3 α4 α5 α6 α7 α8 α9 α10 α11 α12 α13 α14 : Type} {a0 b0 : α0} {a1 b1 : α1} {a2 b2 : α2} {a3 b3 : α3} {a4 b4 : α4} {a5 b5 : α5} {a6 b6 : α6} {a7 b7 : α7} {a8 b8 : α8} {a9 b9 : α9} {a10 b10 : α10} {a11 b11 : α11} {a12 b12 : α12} {a13 b13 : α13} {a14 b14 : α14} (H : some (a0, a1, a2, a3, a4, a5, a6, a7, a8, a9, a10, a11, a12, a13, a14) = some (b0, b1, b2, b3, b4, b5, b6, b7, b8, b9, b10, b11, b12, b13, b14)) : a0 = b0 ∧ a1 = b1 ∧ a2 = b2 ∧ a3 = b3 ∧ a4 = b4 ∧ a5 = b5 ∧ a6 = b6 ∧ a7 = b7 ∧ a8 = b8 ∧ a9 = b9 ∧ a10 = b10 ∧ a11 = b11 ∧ a12 = b12 ∧ a13 = b13 ∧ a14 = b14 := by cases H; exact ⟨rfl, rfl, rfl, rfl, rfl, rfl, rfl, rfl, rfl, rfl, rfl, rfl, rfl, rfl, rfl⟩
theorem res16 {α0 α1 α2 α3 α4 α5 α6 α7 α8 α9 α10 α11 α12 α13 α14 α15 : Type} {a0 b0 : α0} {a1 b1 : α1} {a2 b2 : α2} {a3 b3 : α3} {a4 b4 : α4} {a5 b5 : α5} {a6 b6 : α6} {a7 b7 : α7} {a8 b8 : α8} {a9 b9 : α9} {a10 b10 : α10} {a11 b11 : α11} {a12 b12 : α12} {a13 b13 : α13} {a14 b14 : α14} {a15 b15 : α15} (H : some (a0, a1, a2, a3, a4, a5, a6, a7, a8, a9, a10, a11, a12, a13, a14, a15) = some (b0, b1, b2, b3, b4, b5, b6, b7, b8, b9, b10, b11, b12, b13, b14, b15)) : a0 = b0 ∧ a1 = b1 ∧ a2 = b2 ∧ a3 = b3 ∧ a4 = b4 ∧ a5 = b5 ∧ a6 = b6 ∧ a7 = b7 ∧ a8 = b8 ∧ a9 = b9 ∧ a10 = b10 ∧ a11 = b11 ∧ a12 = b12 ∧ a13 = b13 ∧ a14 = b14 ∧ a15 = b15 := by cases H; exact ⟨rfl, rfl, rfl, rfl, rfl, rfl, rfl, rfl, rfl, rfl, rfl, rfl, rfl, rfl, rfl, rfl⟩
theorem res17 {α0 α1 α2 α3 α4 α5 α6 α7 α8 α9 α10 α11 α12 α13 α14 α15 α16 : Type} {a0 b0 : α0} {a1 b1 : α1} {a2 b2 : α2} {a3 b3 : α3} {a4 b4 : α4} {a5 b5 : α5} {a6 b6 : α6} {a7 b7 : α7} {a8 b8 : α8} {a9 b9 : α9} {a10 b10 : α10} {a11 b11 : α11} {a12 b12 : α12} {a13 b13 : α13} {a14 b14 : α14} {a15 b15 : α15} {a16 b16 : α16} (H : some (a0, a1, a2, a3, a4, a5, a6, a7, a8, a9, a10, a11, a12, a13, a14, a15, a16) = some (b0, b1, b2, b3, b4, b5, b6, b7, b8, b9, b10, b11, b12, b13, b14, b15, b16)) : a0 = b0 ∧ a1 = b1 ∧ a2 = b2 ∧ a3 = b3 ∧ a4 = b4 ∧ a5 = b5 ∧ a6 = b6 ∧ a7 = b7 ∧ a8 = b8 ∧ a9 = b9 ∧ a10 = b10 ∧ a11 = b11 ∧ a12 = b12 ∧ a13 = b13 ∧ a14 = b14 ∧ a15 = b15 ∧ a16 = b16 := by cases H; exact ⟨rfl, rfl, rfl, rfl, rfl, rfl, rfl, rfl, rfl, rfl, rfl, rfl, rfl, rfl, rfl, rfl, rfl⟩
theorem res18 {α0 α1 α2 α3 α4 α5 α6 α7 α8 α9 α10 α11 α12 α13 α14 α15 α16 α17 : Type} {a0 b0 : α0} {a1 b1 : α1} {a2 b2 : α2} {a3 b3 : α3} {a4 b4 : α4} {a5 b5 : α5} {a6 b6 : α6} {a7 b7 : α7} {a8 b8 : α8} {a9 b9 : α9} {a10 b10 : α10} {a11 b11 : α11} {a12 b12 : α12} {a13 b13 : α13} {a14 b14 : α14} {a15 b15 : α15} {a16 b16 : α16} {a17 b17 : α17} (H : some (a0, a1, a2, a3, a4, a5, a6, a7, a8, a9, a10, a11, a12, a13, a14, a15, a16, a17) = some (b0, b1, b2, b3, b4, b5, b6, b7, b8, b9, b10, b11, b12, b13, b14, b15, b16, b17)) : a0 = b0 ∧ a1 = b1 ∧ a2 = b2 ∧ a3 = b3 ∧ a4 = b4 ∧ a5 = b5 ∧ a6 = b6 ∧ a7 = b7 ∧ a8 = b8 ∧ a9 = b9 ∧ a10 = b10 ∧ a11 = b11 ∧ a12 = b12 ∧ a13 = b13 ∧ a14 = b14 ∧ a15 = b15 ∧ a16 = b16 ∧ a17 = b17 := by cases H; exact ⟨rfl, rfl, rfl, rfl, rfl, rfl, rfl, rfl, rfl, rfl, rfl, rfl, rfl, rfl, rfl, rfl, rfl, rfl⟩
theorem res19 {α0 α1 α2 α3 α4 α5 α6 α7 α8 α9 α10 α11 α12 α13 α14 α15 α16 α17 α18 : Type} {a0 b0 : α0} {a1 b1 : α1} {a2 b2 : α2} {a3 b3 : α3} {a4 b4 : α4} {a5 b5 : α5} {a6 b6 : α6} {a7 b7 : α7} {a8 b8 : α8} {a9 b9 : α9} {a10 b10 : α10} {a11 b11 : α11} {a12 b12 : α12} {a13 b13 : α13} {a14 b14 : α14} {a15 b15 : α15} {a16 b16 : α16} {a17 b17 : α17} {a18 b18 : α18} (H : some (a0, a1, a2, a3, a4, a5, a6, a7, a8, a9, a10, a11, a12, a13, a14, a15, a16, a17, a18) = some (b0, b1, b2, b3, b4, b5, b6, b7, b8, b9, b10, b11, b12, b13, b14, b15, b16, b17, b18)) : a0 = b0 ∧ a1 = b1 ∧ a2 = b2 ∧ a3 = b3 ∧ a4 = b4 ∧ a5 = b5 ∧ a6 = b6 ∧ a7 = b7 ∧ a8 = b8 ∧ a9 = b9 ∧ a10 = b10 ∧ a11 = b11 ∧ a12 = b12 ∧ a13 = b13 ∧ a14 = b14 ∧ a15 = b15 ∧ a16 = b16 ∧ a17 = b17 ∧ a18 = b18 := by cases H; exact ⟨rfl, rfl, rfl, rfl, rfl, rfl, rfl, rfl, rfl, rfl, rfl, rfl, rfl, rfl, rfl, rfl, rfl, rfl, rfl⟩
theorem res20 {α0 α1 α2 α3 α4 α5 α6 α7 α8 α9 α10 α11 α12 α13 α14 α15 α16 α17 α18 α19 : Type} {a0 b0 : α0} {a1 b1 : α1} {a2 b2 : α2} {a3 b3 : α3} {a4 b4 : α4} {a5 b5 : α5} {a6 b6 : α6} {a7 b7 : α7} {a8 b8 : α8} {a9 b9 : α9} {a10 b10 : α10} {a11 b11 : α11} {a12 b12 : α12} {a13 b13 : α13} {a14 b14 : α14} {a15 b15 : α15} {a16 b16 : α16} {a17 b17 : α17} {a18 b18 : α18} {a19 b19 : α19} (H : some (a0, a1, a2, a3, a4, a5, a6, a7, a8, a9, a10, a11, a12, a13, a14, a15, a16, a17, a18, a19) = some (b0, b1, b2, b3, b4, b5, b6, b7, b8, b9, b10, b11, b12, b13, b14, b15, b16, b17, b18, b19)) : a0 = b0 ∧ a1 = b1 ∧ a2 = b2 ∧ a3 = b3 ∧ a4 = b4 ∧ a5 = b5 ∧ a6 = b6 ∧ a7 = b7 ∧ a8 = b8 ∧ a9 = b9 ∧ a10 = b10 ∧ a11 = b11 ∧ a12 = b12 ∧ a13 = b13 ∧ a14 = b14 ∧ a15 = b15 ∧ a16 = b16 ∧ a17 = b17 ∧ a18 = b18 ∧ a19 = b19 := by cases H; exact ⟨rfl, rfl, rfl, rfl, rfl, rfl, rfl, rfl, rfl, rfl, rfl, rfl, rfl, rfl, rfl, rfl, rfl, rfl, rfl, rfl⟩
theorem res21 {α0 α1 α2 α3 α4 α5 α6 α7 α8 α9 α10 α11 α12 α13 α14 α15 α16 α17 α18 α19 α20 : Type} {a0 b0 : α0} {a1 b1 : α1} {a2 b2 : α2} {a3 b3 : α3} {a4 b4 : α4} {a5 b5 : α5} {a6 b6 : α6} {a7 b7 : α7} {a8 b8 : α8} {a9 b9 : α9} {a10 b10 : α10} {a11 b11 : α11} {a12 b12 : α12} {a13 b13 : α13} {a14 b14 : α14} {a15 b15 : α15} {a16 b16 : α16} {a17 b17 : α17} {a18 b18 : α18} {a19 b19 : α19} {a20 b20 : α20} (H : some (a0, a1, a2, a3, a4, a5, a6, a7, a8, a9, a10, a11, a12, a13, a14, a15, a16, a17, a18, a19, a20) = some (b0, b1, b2, b3, b4, b5, b6, b7, b8, b9, b10, b11, b12, b13, b14, b15, b16, b17, b18, b19, b20)) : a0 = b0 ∧ a1 = b1 ∧ a2 = b2 ∧ a3 = b3 ∧ a4 = b4 ∧ a5 = b5 ∧ a6 = b6 ∧ a7 = b7 ∧ a8 = b8 ∧ a9 = b9 ∧ a10 = b10 ∧ a11 = b11 ∧ a12 = b12 ∧ a13 = b13 ∧ a14 = b14 ∧ a15 = b15 ∧ a16 = b16 ∧ a17 = b17 ∧ a18 = b18 ∧ a19 = b19 ∧ a20 = b20 := by cases H; exact ⟨rfl, rfl, rfl, rfl, rfl, rfl, rfl, rfl, rfl, rfl, rfl, rfl, rfl, rfl, rfl, rfl, rfl, rfl, rfl, rfl, rfl⟩

/-! Ways that are decided -/
theorem bT {p : Prop} [Decidable p] {a b : α} (h : p) : (bif decide p then a else b) = a := by rw [decide_eq_true h]; rfl
theorem bF {p : Prop} [Decidable p] {a b : α} (h : ¬ p) : (bif decide p then a else b) = b := by rw [decide_eq_false h]; rfl
theorem at_nat [Inhabited α] {l : List α} {i : Nat} (h : i < l.length) : at_ l (i : Int) = l[i] := by simp [at_, h]
theorem at_zero [Inhabited α] {l : List α} (h : 0 < l.length) : at_ l 0 = l[0] := at_nat (i := 0) h
theorem from_nat {l : List α} {i : Nat} : from_ l (i : Int) = l.drop i := by simp [from_]
theorem to_nat {l : List α} {i : Nat} : to_ l (i : Int) = l.take i := by simp [to_]
theorem sub_nat {l : List α} {i j : Nat} : sub l (i : Int) (j : Int) = (l.take j).drop i := by simp [sub]
theorem cast_succ (i : Nat) : ((i : Int) + 1) = ((i + 1 : Nat) : Int) := Eq.symm (Eq.symm rfl)
theorem lt_eq {a : α} {f : α → Option ρ} : lt a f = f a := Eq.symm (Eq.symm rfl)
end Go.Pv
