/-
  What the library's functions compute, by content: searching, cutting, splitting.
-/
import Derived.Test.YtpbfajkbkomfcaaDoorAvLift
import Derived.Test.YtpbfajkbkomfcaaDoorShelf
set_option linter.unusedVariables false
set_option linter.unusedSimpArgs false
namespace Go.Proofs.YtpbfajkbkomfcaaDoor
open Go.RowKit Go.Av

theorem en34 : ∀ (args : Array Value) (w : World), (callFunc 34 args).run Tryd.prog w = .ok (.enter 34 args) w := fun _ _ => by kernel_rfl
theorem en35 : ∀ (args : Array Value) (w : World), (callFunc 35 args).run Tryd.prog w = .ok (.enter 35 args) w := fun _ _ => by kernel_rfl
theorem en95 : ∀ (args : Array Value) (w : World), (callFunc 95 args).run Tryd.prog w = .ok (.enter 95 args) w := fun _ _ => by kernel_rfl

theorem lib_Index (s sub : List UInt8) (hs : s.length < 4294967281) : ACalls Tryd.prog 34 [S s, S sub] [] (Ret (i64 (Go.Lib.index s sub)) []) := by
  refine ACalls.of_below fun I A w vs hI hv => ?_
  obtain ⟨v1, r1, rfl, h1, hv⟩ := hv.out_cons
  obtain ⟨v2, r2, rfl, h2, hv⟩ := hv.out_cons
  rw [hv.out_nil, rel_S h1, rel_S h2]
  obtain ⟨m, hm⟩ := glob_anyk hI (g := 0) (k := .i64) (r := []) rfl
  refine (Tryd.strings_Index ⟨s.toArray⟩ ⟨sub.toArray⟩ m w (by simpa [ByteArray.size] using hs) hm).mono fun e w' ⟨he, hw⟩ => ⟨by simpa using he, hw ▸ Below.refl _ _⟩
theorem lib_Cut (s sep : List UInt8) (hs : s.length < 4294967281) : ACalls Tryd.prog 35 [S s, S sep] [] (Ret (.tup [S (Go.Lib.cut s sep).1, S (Go.Lib.cut s sep).2.1, B (Go.Lib.cut s sep).2.2]) []) := by
  refine ACalls.of_below_tup (rs := [.string ⟨(Go.Lib.cut s sep).1.toArray⟩, .string ⟨(Go.Lib.cut s sep).2.1.toArray⟩, .bool (Go.Lib.cut s sep).2.2]) rfl fun I A w vs hI hv => ?_
  obtain ⟨v1, r1, rfl, h1, hv⟩ := hv.out_cons
  obtain ⟨v2, r2, rfl, h2, hv⟩ := hv.out_cons
  rw [hv.out_nil, rel_S h1, rel_S h2]
  obtain ⟨m, hm⟩ := glob_anyk hI (g := 0) (k := .i64) (r := []) rfl
  refine (Tryd.strings_Cut ⟨s.toArray⟩ ⟨sep.toArray⟩ m w (by simpa [ByteArray.size] using hs) hm).mono fun e w' ⟨he, n, hw⟩ => ⟨by simpa using he, hw ▸ Below.drewN _ _⟩
theorem lib_IndexByte (s : List UInt8) (c : UInt8) : ACalls Tryd.prog 95 [S s, u8 c] [] (Ret (i64 (Go.Lib.indexByte s c)) []) := by
  refine ACalls.of_below fun I A w vs hI hv => ?_
  obtain ⟨v1, r1, rfl, h1, hv⟩ := hv.out_cons
  obtain ⟨v2, r2, rfl, h2, hv⟩ := hv.out_cons
  rw [hv.out_nil, rel_S h1, rel_v h2]
  refine (Tryd.strings_IndexByte ⟨s.toArray⟩ c.toNat w).mono fun e w' ⟨he, hw⟩ => ⟨by simpa using he, hw ▸ Below.refl _ _⟩

end Go.Proofs.YtpbfajkbkomfcaaDoor
