/-
  Contracts of the library, by content: what is run is what the plain functions say. Printed by a program of ours.
-/
import Derived.Test.YtjhlnhipjomdeaaGreatDoorAvE
import Derived.Test.YtjhlnhipjomdeaaGreatDoorPvLib
import Derived.Test.YtjhlnhipjomdeaaGreatDoorP11Join
import Derived.Test.YtjhlnhipjomdeaaGreatDoorShelf
import Derived.Lib.ItoaNum
import Derived.Test.YtjhlnhipjomdeaaGreatDoorAvStill
import Derived.Test.YtjhlnhipjomdeaaGreatDoorAvSync
import Derived.Test.YtjhlnhipjomdeaaGreatDoorChecked
set_option linter.unusedVariables false
set_option linter.unusedSimpArgs false
namespace Go.Proofs.YtjhlnhipjomdeaaGreatDoor
open Go.RowKit Go.Av Go.Pv

theorem lib_CutPrefix (s p : List UInt8) : ACalls Tryz.prog 53 [S s, S p] [] (Ret (.tup [S (Go.Lib.trimPrefix s p), B (Go.Lib.hasPrefix s p)]) []) := by
 refine ACalls.of_below_tup (rs := [.string ⟨(Go.Lib.trimPrefix s p).toArray⟩, .bool (Go.Lib.hasPrefix s p)]) rfl fun I A w vs hI hv => ?_
 obtain ⟨v1, r1, rfl, h1, hv⟩ := hv.out_cons
 obtain ⟨v2, r2, rfl, h2, hv⟩ := hv.out_cons
 rw [hv.out_nil, rel_S h1, rel_S h2]
 refine (Tryz.strings_CutPrefix ⟨s.toArray⟩ ⟨p.toArray⟩ w).mono fun e w' ⟨he, hw⟩ => ⟨by simpa using he, hw ▸ Below.refl _ _⟩
theorem lib_Itoa (n : Int) (h : 0 ≤ n ∧ n < ((100 : Nat) : Int)) : ACalls Tryz.prog 104 [i64 n] [] (Ret (S (Go.Lib.decDigits n.toNat)) []) := by
 obtain ⟨k, rfl⟩ : ∃ k : Nat, n = k := ⟨n.toNat, by omega⟩
 refine ACalls.of_below fun I A w vs hI hv => ?_
 obtain ⟨v1, r1, rfl, h1, hv⟩ := hv.out_cons
 rw [hv.out_nil, rel_v h1]
 refine (Tryz.strconv_Itoa_small k (by omega) w).mono fun e w' ⟨he, hw⟩ => ⟨by simpa using he, hw ▸ Below.refl _ _⟩
theorem lib_IndexRune (s : List UInt8) (r : Int) (h : 0 ≤ r ∧ r < 128) : ACalls Tryz.prog 48 [S s, .v (.int .i32 r)] [] (Ret (i64 (Go.Lib.indexByte s r.toNat.toUInt8)) []) := by
 refine ACalls.of_below fun I A w vs hI hv => ?_
 obtain ⟨v1, r1, rfl, h1, hv⟩ := hv.out_cons
 obtain ⟨v2, r2, rfl, h2, hv⟩ := hv.out_cons
 rw [hv.out_nil, rel_S h1, rel_v h2]
 refine (Tryz.strings_IndexRune_ascii ⟨s.toArray⟩ r w h.1 h.2).mono fun e w' ⟨he, hw⟩ => ⟨by simpa using he, hw ▸ Below.refl _ _⟩
theorem lib_toError_syntax (fn s : List UInt8) (base bits : Int) (hs : s.length < 4294967281) : ACalls Tryz.prog 77 [S fn, S s, i64 base, i64 bits, .ifc 135 (i64 2)] [] (Ret (.ifc 139 .any) []) := by
 refine ACalls.of_belowR fun I A w vs hI hv => ?_
 obtain ⟨v1, r1, rfl, h1, hv⟩ := hv.out_cons
 obtain ⟨v2, r2, rfl, h2, hv⟩ := hv.out_cons
 obtain ⟨v3, r3, rfl, h3, hv⟩ := hv.out_cons
 obtain ⟨v4, r4, rfl, h4, hv⟩ := hv.out_cons
 obtain ⟨v5, r5, rfl, h5, hv⟩ := hv.out_cons
 rw [hv.out_nil, rel_S h1, rel_S h2, rel_v h3, rel_v h4, rel_ifc_int h5]
 obtain ⟨ev, hc, hev⟩ := glob_anyi hI (g := 1) (r := []) rfl
 refine (Tryz.strconv_toError_syntax ⟨fn.toArray⟩ ⟨s.toArray⟩ base bits ev w (by simp [ByteArray.size]; omega) hc hev).mono fun e w' ⟨N, he, _, _, hb⟩ => ⟨_, he, fun _ _ => .ifc _ _ _ (.any _), hb⟩
theorem lib_toError_range (fn s : List UInt8) (base bits : Int) (hs : s.length < 4294967281) : ACalls Tryz.prog 77 [S fn, S s, i64 base, i64 bits, .ifc 135 (i64 1)] [] (Ret (.ifc 139 .any) []) := by
 refine ACalls.of_belowR fun I A w vs hI hv => ?_
 obtain ⟨v1, r1, rfl, h1, hv⟩ := hv.out_cons
 obtain ⟨v2, r2, rfl, h2, hv⟩ := hv.out_cons
 obtain ⟨v3, r3, rfl, h3, hv⟩ := hv.out_cons
 obtain ⟨v4, r4, rfl, h4, hv⟩ := hv.out_cons
 obtain ⟨v5, r5, rfl, h5, hv⟩ := hv.out_cons
 rw [hv.out_nil, rel_S h1, rel_S h2, rel_v h3, rel_v h4, rel_ifc_int h5]
 obtain ⟨ev, hc, hev⟩ := glob_anyi hI (g := 2) (r := []) rfl
 refine (Tryz.strconv_toError_range ⟨fn.toArray⟩ ⟨s.toArray⟩ base bits ev w (by simp [ByteArray.size]; omega) hc hev).mono fun e w' ⟨N, he, _, _, hb⟩ => ⟨_, he, fun _ _ => .ifc _ _ _ (.any _), hb⟩
theorem lib_toError (fn s : List UInt8) (base bits n : Int) (hs : s.length < 4294967281) (hn : n = 1 ∨ n = 2) : ACalls Tryz.prog 77 [S fn, S s, i64 base, i64 bits, eCode 135 .i64 n] [] (Ret (.ifc 139 .any) []) := by
 rcases hn with rfl | rfl
 ·exact lib_toError_range fn s base bits hs
 ·exact lib_toError_syntax fn s base bits hs
end Go.Proofs.YtjhlnhipjomdeaaGreatDoor
