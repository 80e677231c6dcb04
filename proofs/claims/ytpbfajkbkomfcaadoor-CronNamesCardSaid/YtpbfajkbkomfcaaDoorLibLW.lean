/-
  Contracts of the library, by content: what is run is what the plain functions say. Printed by a program of ours.
-/
import Derived.Test.YtpbfajkbkomfcaaDoorAvE
import Derived.Test.YtpbfajkbkomfcaaDoorPvLib
import Derived.Test.YtpbfajkbkomfcaaDoorP11Split
import Derived.Test.YtpbfajkbkomfcaaDoorAvStill
import Derived.Test.YtpbfajkbkomfcaaDoorChecked
set_option linter.unusedVariables false
set_option linter.unusedSimpArgs false
namespace Go.Proofs.YtpbfajkbkomfcaaDoor
open Go.RowKit Go.Av Go.Pv

theorem lib_Itoa (n : Int) (h : 0 ≤ n ∧ n < ((100 : Nat) : Int)) : ACalls Tryd.prog 15 [i64 n] [] (Ret (S (Go.Lib.decDigits n.toNat)) []) := by
 obtain ⟨k, rfl⟩ : ∃ k : Nat, n = k := ⟨n.toNat, by omega⟩
 refine ACalls.of_below fun I A w vs hI hv => ?_
 obtain ⟨v1, r1, rfl, h1, hv⟩ := hv.out_cons
 rw [hv.out_nil, rel_v h1]
 refine (Tryd.strconv_Itoa_small k (by omega) w).mono fun e w' ⟨he, hw⟩ => ⟨by simpa using he, hw ▸ Below.refl _ _⟩
theorem lib_Trim (s c : List UInt8) (hs : s.length < 4294967281) (hc : c.length < 4294967281) (ha : asciiB c = true) : ACalls Tryd.prog 48 [S s, S c] [] (Ret (S (Go.Lib.trimS s c)) []) := by
 refine ACalls.of_below fun I A w vs hI hv => ?_
 obtain ⟨v1, r1, rfl, h1, hv⟩ := hv.out_cons
 obtain ⟨v2, r2, rfl, h2, hv⟩ := hv.out_cons
 rw [hv.out_nil, rel_S h1, rel_S h2]
 refine (Tryd.strings_Trim_ascii ⟨s.toArray⟩ ⟨c.toArray⟩ w (by simp [ByteArray.size]; omega) (by simpa [ByteArray.size] using hc) (fun j b hj => asciiB_s ha j b (by simpa using hj))).mono fun e w' ⟨he, hb⟩ => ⟨by simpa using he, hb⟩
theorem lib_IndexRune (s : List UInt8) (r : Int) (h : 0 ≤ r ∧ r < 128) : ACalls Tryd.prog 90 [S s, .v (.int .i32 r)] [] (Ret (i64 (Go.Lib.indexByte s r.toNat.toUInt8)) []) := by
 refine ACalls.of_below fun I A w vs hI hv => ?_
 obtain ⟨v1, r1, rfl, h1, hv⟩ := hv.out_cons
 obtain ⟨v2, r2, rfl, h2, hv⟩ := hv.out_cons
 rw [hv.out_nil, rel_S h1, rel_v h2]
 refine (Tryd.strings_IndexRune_ascii ⟨s.toArray⟩ r w h.1 h.2).mono fun e w' ⟨he, hw⟩ => ⟨by simpa using he, hw ▸ Below.refl _ _⟩
theorem lib_toError_syntax (fn s : List UInt8) (base bits : Int) (hs : s.length < 4294967281) : ACalls Tryd.prog 72 [S fn, S s, i64 base, i64 bits, .ifc 124 (i64 2)] [] (Ret (.ifc 127 .any) []) := by
 refine ACalls.of_belowR fun I A w vs hI hv => ?_
 obtain ⟨v1, r1, rfl, h1, hv⟩ := hv.out_cons
 obtain ⟨v2, r2, rfl, h2, hv⟩ := hv.out_cons
 obtain ⟨v3, r3, rfl, h3, hv⟩ := hv.out_cons
 obtain ⟨v4, r4, rfl, h4, hv⟩ := hv.out_cons
 obtain ⟨v5, r5, rfl, h5, hv⟩ := hv.out_cons
 rw [hv.out_nil, rel_S h1, rel_S h2, rel_v h3, rel_v h4, rel_ifc_int h5]
 obtain ⟨ev, hc, hev⟩ := glob_anyi hI (g := 4) (r := []) rfl
 refine (Tryd.strconv_toError_syntax ⟨fn.toArray⟩ ⟨s.toArray⟩ base bits ev w (by simp [ByteArray.size]; omega) hc hev).mono fun e w' ⟨N, he, _, _, hb⟩ => ⟨_, he, fun _ _ => .ifc _ _ _ (.any _), hb⟩
theorem lib_toError_range (fn s : List UInt8) (base bits : Int) (hs : s.length < 4294967281) : ACalls Tryd.prog 72 [S fn, S s, i64 base, i64 bits, .ifc 124 (i64 1)] [] (Ret (.ifc 127 .any) []) := by
 refine ACalls.of_belowR fun I A w vs hI hv => ?_
 obtain ⟨v1, r1, rfl, h1, hv⟩ := hv.out_cons
 obtain ⟨v2, r2, rfl, h2, hv⟩ := hv.out_cons
 obtain ⟨v3, r3, rfl, h3, hv⟩ := hv.out_cons
 obtain ⟨v4, r4, rfl, h4, hv⟩ := hv.out_cons
 obtain ⟨v5, r5, rfl, h5, hv⟩ := hv.out_cons
 rw [hv.out_nil, rel_S h1, rel_S h2, rel_v h3, rel_v h4, rel_ifc_int h5]
 obtain ⟨ev, hc, hev⟩ := glob_anyi hI (g := 5) (r := []) rfl
 refine (Tryd.strconv_toError_range ⟨fn.toArray⟩ ⟨s.toArray⟩ base bits ev w (by simp [ByteArray.size]; omega) hc hev).mono fun e w' ⟨N, he, _, _, hb⟩ => ⟨_, he, fun _ _ => .ifc _ _ _ (.any _), hb⟩
theorem lib_toError (fn s : List UInt8) (base bits n : Int) (hs : s.length < 4294967281) (hn : n = 1 ∨ n = 2) : ACalls Tryd.prog 72 [S fn, S s, i64 base, i64 bits, eCode 124 .i64 n] [] (Ret (.ifc 127 .any) []) := by
 rcases hn with rfl | rfl
 ·exact lib_toError_range fn s base bits hs
 ·exact lib_toError_syntax fn s base bits hs
theorem lib_Atoi (s : List UInt8) (hs : s.length ≤ 18) : ACalls Tryd.prog 49 [S s] [] (Ret (.tup [i64 (atoi18 s).1, eAny 127 (atoi18 s).2]) []) := by
 unfold atoi18
 cases h : Go.Lib.atoi s with
 | some v =>
  refine ACalls.of_belowT (avs' := [i64 v, eAny 127 0]) fun I A w vs hI hv => ?_
  obtain ⟨v1, r1, rfl, h1, hv⟩ := hv.out_cons
  rw [hv.out_nil, rel_S h1]
  refine (Tryd.strconv_Atoi ⟨s.toArray⟩ v (by simpa [ByteArray.size] using hs) (by simpa using h) w).mono fun e w' ⟨he, hw⟩ => ⟨_, he, fun I w => RelL.cons (.v _) (RelL.cons (.v _) RelL.nil), ?_⟩
  obtain ⟨t, rfl⟩ := hw
  exact Go.Lib.bytesWorld_below _ _ _
 | none =>
  refine ACalls.of_belowT (avs' := [i64 0, eAny 127 1]) fun I A w vs hI hv => ?_
  obtain ⟨v1, r1, rfl, h1, hv⟩ := hv.out_cons
  rw [hv.out_nil, rel_S h1]
  obtain ⟨ev, hc, hev⟩ := glob_anyi hI (g := 4) (r := []) rfl
  exact (Tryd.strconv_Atoi_err ⟨s.toArray⟩ (by simpa [ByteArray.size] using hs) (by simpa using h) ev w hc hev).mono fun e w' ⟨N, he, _, _, hb⟩ => ⟨_, he, fun I w => RelL.cons (.v _) (RelL.cons (.ifc _ _ _ (.any _)) RelL.nil), hb⟩
end Go.Proofs.YtpbfajkbkomfcaaDoor
