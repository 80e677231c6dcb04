/-
  Plain words for what library functions ask and give. No program is spoken of.
-/
import Derived.Test.YtjhlnhipjomdeaaGreatDoorPv
import Derived.Test.YtjhlnhipjomdeaaGreatDoorStrPure
import Derived.Lib.SplitLaws
import Derived.Lib.IndexMore
import Derived.Lib.Strings
import Derived.Lib.SlTrimSet
import Derived.Lib.Atoi
set_option linter.unusedVariables false
namespace Go.Pv
open Go.Av
def okS (n : Nat) : Bool := decide (n < 4294967281)
def okJoin (l : List (List UInt8)) (sep : List UInt8) : Bool := decide (sep.length * l.length + Str.total l ≤ 1000000000 ∧ l.length ≤ 1000000000)
def okW (l s : List UInt8) : Bool := decide (l.length + s.length ≤ 1000000000)
theorem okS_s {n : Nat} (h : okS n = true) : n < 4294967281 := of_decide_eq_true h
theorem okJoin_s {l : List (List UInt8)} {sep : List UInt8} (h : okJoin l sep = true) : sep.length * l.length + Str.total l ≤ 1000000000 ∧ l.length ≤ 1000000000 := of_decide_eq_true h
theorem okW_s {l s : List UInt8} (h : okW l s = true) : l.length + s.length ≤ 1000000000 := of_decide_eq_true h
theorem okW0_s {l : List UInt8} (h : okW l [] = true) : l.length ≤ 1000000000 := by have := okW_s h; simpa using this
section
variable {ρ : Type} {k : Option ρ}
theorem grd_S {n : Nat} (h : n < 4294967281) : grd (okS n) k = k := by rw [okS, decide_eq_true h]; rfl
theorem grd_Join {l : List (List UInt8)} {sep : List UInt8} (h : sep.length * l.length + Str.total l ≤ 1000000000 ∧ l.length ≤ 1000000000) : grd (okJoin l sep) k = k := by rw [okJoin, decide_eq_true h]; rfl
theorem grd_W {l s : List UInt8} (h : l.length + s.length ≤ 1000000000) : grd (okW l s) k = k := by rw [okW, decide_eq_true h]; rfl
end
/-- The number that a short text spells, and whether it spells none. -/
def atoi18 (s : List UInt8) : Int × Int := match Go.Lib.atoi s with | some v => (v, 0) | none => (0, 1)
def asciiB (l : List UInt8) : Bool := l.all fun b => decide (b.toNat < 128)
theorem asciiB_s {l : List UInt8} (h : asciiB l = true) : ∀ (j : Nat) b, l[j]? = some b → b.toNat < 128 := fun j b hj => of_decide_eq_true (List.all_eq_true.1 h b (List.mem_of_getElem? hj))
/-- Without a text ahead, if it stands there. -/
def trimPrefix (s p : List UInt8) : List UInt8 := if p.isPrefixOf s then s.drop p.length else s
def cutPrefix (s p : List UInt8) : List UInt8 × Bool := if p.isPrefixOf s then (s.drop p.length, true) else (s, false)
end Go.Pv
