/-
  What the library's functions compute, by content: searching, cutting, splitting.
-/
import Derived.Test.YtjhlnhipjomdeaaGreatDoorAvLift
import Derived.Test.YtjhlnhipjomdeaaGreatDoorShelf
set_option linter.unusedVariables false
set_option linter.unusedSimpArgs false
namespace Go.Proofs.YtjhlnhipjomdeaaGreatDoor
open Go.RowKit Go.Av

theorem en148 : ∀ (args : Array Value) (w : World), (callFunc 148 args).run Tryz.prog w = .ok (.enter 148 args) w := fun _ _ => by kernel_rfl
theorem en28 : ∀ (args : Array Value) (w : World), (callFunc 28 args).run Tryz.prog w = .ok (.enter 28 args) w := fun _ _ => by kernel_rfl

theorem lib_Index (s sub : List UInt8) (hs : s.length < 4294967281) : ACalls Tryz.prog 148 [S s, S sub] [] (Ret (i64 (Go.Lib.index s sub)) []) := by
  refine ACalls.of_below fun I A w vs hI hv => ?_
  obtain ⟨v1, r1, rfl, h1, hv⟩ := hv.out_cons
  obtain ⟨v2, r2, rfl, h2, hv⟩ := hv.out_cons
  rw [hv.out_nil, rel_S h1, rel_S h2]
  obtain ⟨m, hm⟩ := glob_anyk hI (g := 0) (k := .i64) (r := []) rfl
  refine (Tryz.strings_Index ⟨s.toArray⟩ ⟨sub.toArray⟩ m w (by simpa [ByteArray.size] using hs) hm).mono fun e w' ⟨he, hw⟩ => ⟨by simpa using he, hw ▸ Below.refl _ _⟩
theorem lib_IndexByte (s : List UInt8) (c : UInt8) : ACalls Tryz.prog 28 [S s, u8 c] [] (Ret (i64 (Go.Lib.indexByte s c)) []) := by
  refine ACalls.of_below fun I A w vs hI hv => ?_
  obtain ⟨v1, r1, rfl, h1, hv⟩ := hv.out_cons
  obtain ⟨v2, r2, rfl, h2, hv⟩ := hv.out_cons
  rw [hv.out_nil, rel_S h1, rel_v h2]
  refine (Tryz.strings_IndexByte ⟨s.toArray⟩ c.toNat w).mono fun e w' ⟨he, hw⟩ => ⟨by simpa using he, hw ▸ Below.refl _ _⟩

end Go.Proofs.YtjhlnhipjomdeaaGreatDoor
