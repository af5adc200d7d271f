/- For all bytes, numbers and sizes PackOrder answers true; no conditions but the sizes that the statement names. -/
import Derived.Test.YtmlbdfgodcddeaaAx13
import Derived.Test.YtmlbdfgodcddeaaPackA
import Derived.Test.YtmlbdfgodcddeaaPackAwake
namespace Go.Proofs.Ytmlbdfgodcddeaa.Pure
open Go.RowKit Go.Proofs.Ytmlbdfgodcddeaa.Plain Go.Proofs.Ytmlbdfgodcddeaa.A Go.Proofs.YtmlbdfgodcddeaaW.PrintWords Go.Proofs.YtmlbdfgodcddeaaW.PrintLast Go.Proofs.YtmlbdfgodcddeaaW.PrintMore
set_option linter.unusedVariables false
set_option linter.unusedSimpArgs false
theorem less_behind (p a b : List UInt8) : Op.bytesLess (p ++ a) (p ++ b) = Op.bytesLess a b := by
  induction p with
  | nil => rfl
  | cons x p ih => simp [Op.bytesLess, ih]
theorem oct_lt {a b : Int} (ha : 0 ≤ a ∧ a < 256) (hb : 0 ≤ b ∧ b < 256) : (UInt8.ofNat a.toNat < UInt8.ofNat b.toNat) ↔ a < b := by
  rw [UInt8.lt_iff_toNat_lt, UInt8.toNat_ofNat', UInt8.toNat_ofNat']
  omega
theorem oct_eq {a b : Int} (ha : 0 ≤ a ∧ a < 256) (hb : 0 ≤ b ∧ b < 256) : (UInt8.ofNat a.toNat = UInt8.ofNat b.toNat) ↔ a = b := by
  rw [← UInt8.toNat_inj, UInt8.toNat_ofNat', UInt8.toNat_ofNat']
  omega
theorem less_bytes (m n : Int) (k : Nat) : Op.bytesLess ((pkBytes k m).map fun x => UInt8.ofNat x.toNat) ((pkBytes k n).map fun x => UInt8.ofNat x.toNat) = decide (m % 2 ^ (8 * k) < n % 2 ^ (8 * k)) := by
  induction k with
  | zero => simp [pkBytes, Op.bytesLess, Int.emod_one]
  | succ k ih =>
    have hP : (0 : Int) < 2 ^ (8 * k) := Int.pow_pos (by omega)
    have eP : (2 : Int) ^ (8 * (k + 1)) = 2 ^ (8 * k) * 256 := by rw [Nat.mul_add, Int.pow_add]; rfl
    rw [eP, mod_split m _ hP, mod_split n _ hP, pkBytes, pkBytes, List.map_cons, List.map_cons, Op.bytesLess, ih]
    have a0 := Int.emod_nonneg m (show (2 : Int) ^ (8 * k) ≠ 0 by omega)
    have a1 := Int.emod_lt_of_pos m hP
    have b0 := Int.emod_nonneg n (show (2 : Int) ^ (8 * k) ≠ 0 by omega)
    have b1 := Int.emod_lt_of_pos n hP
    have c0 : 0 ≤ m / 2 ^ (8 * k) % 256 ∧ m / 2 ^ (8 * k) % 256 < 256 := by omega
    have d0 : 0 ≤ n / 2 ^ (8 * k) % 256 ∧ n / 2 ^ (8 * k) % 256 < 256 := by omega
    generalize m / 2 ^ (8 * k) % 256 = c at *
    generalize n / 2 ^ (8 * k) % 256 = d at *
    generalize m % 2 ^ (8 * k) = r at *
    generalize n % 2 ^ (8 * k) = t at *
    generalize (2 : Int) ^ (8 * k) = P at *
    clear ih eP
    rw [Bool.eq_iff_iff]
    simp only [Bool.or_eq_true, Bool.and_eq_true, decide_eq_true_eq, beq_iff_eq, oct_lt c0 d0, oct_eq c0 d0]
    rcases Int.lt_trichotomy c d with h | h | h
    · have h2 : P * (c + 1) ≤ P * d := Int.mul_le_mul_of_nonneg_left (by omega) (by omega)
      rw [Int.mul_add] at h2
      constructor
      · intro _; omega
      · intro _; exact .inl h
    · subst h
      constructor
      · rintro (h | ⟨_, h⟩) <;> omega
      · intro h; exact .inr ⟨rfl, by omega⟩
    · have h2 : P * (d + 1) ≤ P * c := Int.mul_le_mul_of_nonneg_left (by omega) (by omega)
      rw [Int.mul_add] at h2
      constructor
      · rintro (h3 | ⟨h3, _⟩) <;> omega
      · intro h3; omega
theorem tail_ok (m n c : Int) (h : m < 0 ∨ n < 0 ∨ m ≥ c ∨ n ≥ c) : (if m < 0 then some true else (if n < 0 then some true else (if m ≥ c then some true else some (decide (n ≥ c))))) = some true := by
  split
  · rfl
  · split
    · rfl
    · split
      · rfl
      · simp; omega
theorem bad_ok (m n size : Int) (h : pkMay m size = false ∨ pkMay n size = false) :
    (if size = 1 then (if size < 8 then (if m < 0 then (some true) else (if n < 0 then (some true) else (if 0 ≤ (wrap64 (8 * size)) then (if m ≥ (shl .i64 1 (wrap64 (8 * size))) then (some true) else (some (decide (n ≥ (shl .i64 1 (wrap64 (8 * size))))))) else (none)))) else (none)) else (if size = 2 then (if size < 8 then (if m < 0 then (some true) else (if n < 0 then (some true) else (if 0 ≤ (wrap64 (8 * size)) then (if m ≥ (shl .i64 1 (wrap64 (8 * size))) then (some true) else (some (decide (n ≥ (shl .i64 1 (wrap64 (8 * size))))))) else (none)))) else (none)) else (if size = 8 then (none) else (some true)))) = some true := by
  by_cases h1 : size = 1
  · subst h1
    have e1 : shl .i64 1 (wrap64 (8 * 1)) = 256 := by decide +kernel
    have e2 : (0 : Int) ≤ wrap64 (8 * 1) := by decide +kernel
    rw [if_pos rfl, if_pos (by omega), if_pos e2, e1]
    apply tail_ok
    simp [pkMay] at h
    omega
  · by_cases h2 : size = 2
    · subst h2
      have e1 : shl .i64 1 (wrap64 (8 * 2)) = 65536 := by decide +kernel
      have e2 : (0 : Int) ≤ wrap64 (8 * 2) := by decide +kernel
      rw [if_neg h1, if_pos rfl, if_pos (by omega), if_pos e2, e1]
      apply tail_ok
      simp [pkMay] at h
      omega
    · by_cases h8 : size = 8
      · subst h8
        simp [pkMay] at h
      · rw [if_neg h1, if_neg h2, if_neg h8]
theorem PackOrder : fullerlaw08_PackOrder.Pure := by
  intro l m n size _ _ _ hm hn _
  refine ⟨2000, ?_⟩
  unfold fullerlaw08_PackOrder.f
  rw [awake_f 2000 (by omega)]
  simp only [Option.bind_some]
  by_cases h1 : (l.length : Int) > 300
  · rw [if_pos h1]
  · rw [if_neg h1]
    have hput : ∀ x : Int, pack_Put.f l x size = some (pkPut l x size) := fun x => by unfold pack_Put.f; rw [if_pos (by omega)]
    rw [hput m, hput n]
    simp only [Option.bind_some]
    by_cases pm : pkMay m size = true
    · have em : pkPut l m size = (l ++ pkBytes size.toNat m, 0) := by unfold pkPut; rw [if_pos pm]
      rw [em]
      by_cases pn : pkMay n size = true
      · have en : pkPut l n size = (l ++ pkBytes size.toNat n, 0) := by unfold pkPut; rw [if_pos pn]
        rw [en]
        simp only [if_true]
        have hs := ok_pos (may_ok pm)
        have hlen : ((l ++ pkBytes size.toNat m).length : Int) = (l.length : Int) + size := by
          rw [List.length_append, pkBytes_length, Int.natCast_add, Int.toNat_of_nonneg (by omega)]
        have hw : wrap64 ((l.length : Int) + size) = (l.length : Int) + size := w64 (by omega) (by omega)
        have hmn : mn (l.length : Int) ((l.length : Int) + size) = (l.length : Int) := by unfold mn; rw [if_neg (by omega)]
        rw [hw, hlen, if_pos rfl, hmn, if_pos (by omega), if_pos (by omega), Int.toNat_natCast, List.take_left', if_pos rfl]
        · by_cases m0 : m < 0
          · rw [if_pos m0]
          · by_cases n0 : n < 0
            · rw [if_neg m0, if_pos n0]
            · rw [if_neg m0, if_neg n0, str_list, str_list, List.map_append, List.map_append, less_behind, less_bytes]
              have key : m % 2 ^ (8 * size.toNat) = m ∧ n % 2 ^ (8 * size.toNat) = n := by
                have hm' : m ≤ 9223372036854775807 := by
                  simp [Lit.wf, IntKind.min, IntKind.max, IntKind.signed, IntKind.bits] at hm
                  omega
                have hn' : n ≤ 9223372036854775807 := by
                  simp [Lit.wf, IntKind.min, IntKind.max, IntKind.signed, IntKind.bits] at hn
                  omega
                have bound : ∀ x : Int, pkMay x size = true → ¬ x < 0 → x ≤ 9223372036854775807 → x % 2 ^ (8 * size.toNat) = x := by
                  intro x hx h0 h2
                  rcases pkMay_cases hx with ⟨rfl, a, b⟩ | ⟨rfl, a, b⟩ | rfl
                  · show x % 256 = x
                    omega
                  · show x % 65536 = x
                    omega
                  · show x % 18446744073709551616 = x
                    omega
                exact ⟨bound m pm m0 hm', bound n pn n0 hn'⟩
              rw [key.1, key.2, beq_self_eq_true]
        · rfl
      · have en : pkPut l n size = ([], 40) := by unfold pkPut; rw [if_neg pn]
        rw [en]
        simp only [if_true]
        rw [if_neg (by omega)]
        exact bad_ok m n size (.inr (by simpa using pn))
    · have em : pkPut l m size = ([], 40) := by unfold pkPut; rw [if_neg pm]
      rw [em]
      simp only [if_true]
      rw [if_neg (by omega)]
      exact bad_ok m n size (.inl (by simpa using pm))
end Go.Proofs.Ytmlbdfgodcddeaa.Pure
