/- For all numbers PackWide answers true; no conditions. -/
import Derived.Test.YtmlbdfgodcddeaaAx16
import Derived.Test.YtmlbdfgodcddeaaPackA
import Derived.Test.YtmlbdfgodcddeaaPackAwake
namespace Go.Proofs.Ytmlbdfgodcddeaa.Pure
open Go.RowKit Go.Proofs.Ytmlbdfgodcddeaa.Plain Go.Proofs.Ytmlbdfgodcddeaa.A Go.Proofs.YtmlbdfgodcddeaaW.PrintWords Go.Proofs.YtmlbdfgodcddeaaW.PrintLast Go.Proofs.YtmlbdfgodcddeaaW.PrintMore
set_option linter.unusedVariables false
set_option linter.unusedSimpArgs false
theorem wide_one (n : Int) (h0 : 0 ≤ n) (h1 : n ≤ 255) : pkBytes 8 n = List.replicate 7 0 ++ pkBytes 1 n := by
  show [n / 72057594037927936 % 256, n / 281474976710656 % 256, n / 1099511627776 % 256, n / 4294967296 % 256, n / 16777216 % 256, n / 65536 % 256, n / 256 % 256, n / 1 % 256] = [0, 0, 0, 0, 0, 0, 0, n / 1 % 256]
  simp only [List.cons.injEq, and_true]
  omega
theorem wide_two (n : Int) (h0 : 0 ≤ n) (h1 : n ≤ 65535) : pkBytes 8 n = List.replicate 6 0 ++ pkBytes 2 n := by
  show [n / 72057594037927936 % 256, n / 281474976710656 % 256, n / 1099511627776 % 256, n / 4294967296 % 256, n / 16777216 % 256, n / 65536 % 256, n / 256 % 256, n / 1 % 256] = [0, 0, 0, 0, 0, 0, n / 256 % 256, n / 1 % 256]
  simp only [List.cons.injEq, and_true]
  omega
theorem PackWide : fullerlaw08_PackWide.Pure := by
  intro n _
  refine ⟨2000, ?_⟩
  have hput : ∀ x : Int, pack_Put.f ([] : List Int) n x = some (pkPut [] n x) := fun x => by unfold pack_Put.f; rw [if_pos (by simp)]
  unfold fullerlaw08_PackWide.f
  rw [awake_f 2000 (by omega)]
  simp only [Option.bind_some]
  rw [hput 1, hput 2, hput 8]
  simp only [Option.bind_some]
  have e8 : pkPut [] n 8 = (pkBytes 8 n, 0) := by unfold pkPut; rw [if_pos (by simp [pkMay])]; rfl
  have l8 : ((pkBytes 8 n).length : Int) = 8 := by rw [pkBytes_length]; rfl
  rw [e8, if_pos rfl, if_pos l8]
  have s7 : (List.replicate 7 (0 : Int)).length = 7 := rfl
  have s6 : (List.replicate 6 (0 : Int)).length = 6 := rfl
  have two : 0 ≤ n → n ≤ 65535 → pkPut [] n 2 = (pkBytes 2 n, 0) := fun a b => by
    unfold pkPut; rw [if_pos (by simp [pkMay]; omega)]; rfl
  have ntwo : (n < 0 ∨ 65535 < n) → pkPut [] n 2 = ([], 40) := fun a => by
    unfold pkPut; rw [if_neg (by simp [pkMay]; omega)]
  have c2 : 0 ≤ n → n ≤ 65535 → (strOfNums (pkBytes 8 n)).toList = (strOfNums (List.replicate 6 0) ++ strOfNums (pkBytes 2 n)).toList := fun a b => by rw [wide_two n a b, ← str_append]
  have z2 : (strOfNums (List.replicate 6 (0 : Int))).size + (strOfNums (pkBytes 2 n)).size ≤ 9223372036854775807 := by rw [strOfNums_size, strOfNums_size, s6, pkBytes_length]; omega
  have z1 : (strOfNums (List.replicate 7 (0 : Int))).size + (strOfNums (pkBytes 1 n)).size ≤ 9223372036854775807 := by rw [strOfNums_size, strOfNums_size, s7, pkBytes_length]; omega
  by_cases h1 : 0 ≤ n ∧ n ≤ 255
  · have e1 : pkPut [] n 1 = (pkBytes 1 n, 0) := by unfold pkPut; rw [if_pos (by simp [pkMay]; omega)]; rfl
    have c1 : (strOfNums (pkBytes 8 n)).toList = (strOfNums (List.replicate 7 0) ++ strOfNums (pkBytes 1 n)).toList := by rw [wide_one n h1.1 h1.2, ← str_append]
    rw [e1, two h1.1 (by omega), if_pos rfl, if_pos z1, if_pos c1, if_pos rfl, if_pos z2, if_pos (c2 h1.1 (by omega)), if_pos trivial]
  · have e1 : pkPut [] n 1 = ([], 40) := by unfold pkPut; rw [if_neg (by simp [pkMay]; omega)]
    rw [e1, if_neg (by simp), if_pos rfl]
    by_cases h0 : n < 0
    · rw [if_pos h0, ntwo (.inl h0), if_neg (by simp), if_pos rfl, if_pos trivial]
    · rw [if_neg h0]
      by_cases h2 : n ≤ 65535
      · rw [two (by omega) h2, if_pos rfl, if_pos z2, if_pos (c2 (by omega) h2), if_pos trivial, if_pos (by omega)]
      · rw [ntwo (.inr (by omega)), if_neg (by simp), if_pos rfl, if_pos trivial, if_pos (by omega)]
        simp; omega
end Go.Proofs.Ytmlbdfgodcddeaa.Pure
