/- What the document tells of packed numbers, in plain words; no conditions. -/
import Derived.Test.YtchmfdaebohplaaPackA
import Derived.Test.YtchmfdaebohplaaAx10
import Derived.Test.YtchmfdaebohplaaAx11
namespace Go.Proofs.Ytchmfdaebohplaa.Plain
open Go.RowKit Go.Proofs.Ytchmfdaebohplaa.A Go.Proofs.YtchmfdaebohplaaW.PrintWords Go.Proofs.YtchmfdaebohplaaW.PrintLast Go.Proofs.YtchmfdaebohplaaW.PrintMore
set_option linter.unusedVariables false
set_option linter.unusedSimpArgs false
theorem rmay_f (n size : Int) : fullerref08_may.f n size = some (pkMay n size) := by
  unfold fullerref08_may.f pkMay
  by_cases h1 : size = 1
  · subst h1
    by_cases h0 : n ≥ 0
    · by_cases h2 : n ≤ 255 <;> simp [h0, h2]
    · have : ¬ 0 ≤ n := h0
      simp [h0]
  · by_cases h2 : size = 2
    · subst h2
      by_cases h0 : n ≥ 0
      · by_cases h3 : n ≤ 65535 <;> simp [h0, h3]
      · have : ¬ 0 ≤ n := h0
        simp [h0]
    · simp [h1, h2]
theorem bytes_last (u : Int) : ∀ m, pkBytes (m + 1) u = pkBytes m (u / 256) ++ [u % 256]
  | 0 => by simp [pkBytes]
  | m + 1 => by
    rw [pkBytes, bytes_last u m]
    conv => rhs; rw [pkBytes]
    have e : u / 2 ^ (8 * (m + 1)) = u / 256 / 2 ^ (8 * m) := by
      rw [Nat.mul_add, Int.pow_add, Int.mul_comm, Int.ediv_ediv_of_nonneg (by decide)]
      rfl
    rw [e]
    rfl
theorem rbytes_l0 (size : Nat) (hs : size ≤ 8) (e : Nat) : ∀ (k i : Nat) (u : Int) (out : List Int), size - i = e → i ≤ size → e + 1 ≤ k → 0 ≤ u → u < 18446744073709551616 → out.length ≤ 8 →
    out.length = i → fullerref08_bytes.l0 k (size : Int) u out (i : Int) = some (pkBytes e u ++ out) := by
  induction e with
  | zero =>
    intro k i u out hd hi hk h0 h1 ho hoi
    obtain ⟨k, rfl⟩ : ∃ q, k = q + 1 := ⟨k - 1, by omega⟩
    rw [fullerref08_bytes.l0, if_neg (by omega)]
    rfl
  | succ e ih =>
    intro k i u out hd hi hk h0 h1 ho hoi
    obtain ⟨k, rfl⟩ : ∃ q, k = q + 1 := ⟨k - 1, by omega⟩
    have hw : wrap64 ((i : Int) + 1) = ((i + 1 : Nat) : Int) := by rw [w64 (by omega) (by omega)]; omega
    have e1 : Int.tmod u 256 % 256 = u % 256 := by rw [Int.tmod_eq_emod_of_nonneg h0]; omega
    have e2 : IntKind.u64.wrap (Int.tdiv u 256) = u / 256 := by
      rw [Int.tdiv_eq_ediv_of_nonneg h0]
      simp only [IntKind.wrap, IntKind.signed, IntKind.bits, Bool.false_and, Bool.false_eq_true, if_false]
      omega
    rw [fullerref08_bytes.l0, if_pos (by omega)]
    simp only [Option.bind_some, List.length_singleton]
    rw [if_pos (by omega), hw, e2, ih k (i + 1) _ _ (by omega) (by omega) (by omega) (by omega) (by omega) (by simp; omega) (by simp; omega), bytes_last, e1]
    simp
theorem u64_wrap (x : Int) : IntKind.u64.wrap x = x % 18446744073709551616 := by
  simp only [IntKind.wrap, IntKind.signed, IntKind.bits, Bool.false_and, Bool.false_eq_true, if_false]
  rfl
theorem bytes_mod (n : Int) : pkBytes 8 (n % 18446744073709551616) = pkBytes 8 n ∧ pkBytes 1 (n % 18446744073709551616) = pkBytes 1 n ∧ pkBytes 2 (n % 18446744073709551616) = pkBytes 2 n := by
  have e7 : (2 : Int) ^ 56 = 72057594037927936 := by decide
  have e6 : (2 : Int) ^ 48 = 281474976710656 := by decide
  have e5 : (2 : Int) ^ 40 = 1099511627776 := by decide
  have e4 : (2 : Int) ^ 32 = 4294967296 := by decide
  have e3 : (2 : Int) ^ 24 = 16777216 := by decide
  have e2 : (2 : Int) ^ 16 = 65536 := by decide
  have e1 : (2 : Int) ^ 8 = 256 := by decide
  have e0 : (2 : Int) ^ 0 = 1 := by decide
  simp only [pkBytes, Nat.reduceMul, e7, e6, e5, e4, e3, e2, e1, e0]
  have c0 : n % 18446744073709551616 / 72057594037927936 % 256 = n / 72057594037927936 % 256 := by omega
  have c1 : n % 18446744073709551616 / 281474976710656 % 256 = n / 281474976710656 % 256 := by omega
  have c2 : n % 18446744073709551616 / 1099511627776 % 256 = n / 1099511627776 % 256 := by omega
  have c3 : n % 18446744073709551616 / 4294967296 % 256 = n / 4294967296 % 256 := by omega
  have c4 : n % 18446744073709551616 / 16777216 % 256 = n / 16777216 % 256 := by omega
  have c5 : n % 18446744073709551616 / 65536 % 256 = n / 65536 % 256 := by omega
  have c6 : n % 18446744073709551616 / 256 % 256 = n / 256 % 256 := by omega
  have c7 : n % 18446744073709551616 / 1 % 256 = n / 1 % 256 := by omega
  rw [c0, c1, c2, c3, c4, c5, c6, c7]
  exact ⟨rfl, rfl, rfl⟩
theorem rbytes_f (n size : Int) (hs : okSize size = true) (k : Nat) (hk : 20 ≤ k) : fullerref08_bytes.f k n size = some (pkBytes size.toNat n) := by
  unfold fullerref08_bytes.f
  have hsz := ok_pos hs
  have h := rbytes_l0 size.toNat (by omega) size.toNat k 0 (n % 18446744073709551616) [] (by omega) (by omega) (by omega) (by omega) (by omega) (by simp) rfl
  rw [show ((size.toNat : Nat) : Int) = size by omega] at h
  simp only [Int.natCast_zero, List.append_nil] at h
  rw [u64_wrap, h]
  obtain ⟨h8, h1, h2⟩ := bytes_mod n
  rcases okSize_cases hs with rfl | rfl | rfl
  · exact congrArg some h1
  · exact congrArg some h2
  · exact congrArg some h8
theorem rpput_f (b : List Int) (n size : Int) (hb : b.length ≤ 100000000000000) (k : Nat) (hk : 20 ≤ k) : fullerref08_Put.f k b n size = some (pkPut b n size) := by
  unfold fullerref08_Put.f pkPut
  rw [rmay_f]
  simp only [Option.bind_some]
  cases h : pkMay n size with
  | false => simp
  | true =>
    have hl : (pkBytes size.toNat n).length ≤ 8 := by rw [pkBytes_length]; have := ok_pos (may_ok h); omega
    simp only [if_true, List.length_nil, Nat.zero_add, List.nil_append]
    rw [if_pos (by omega), rbytes_f n size (may_ok h) k hk]
    simp only [Option.bind_some]
    rw [if_pos (by omega)]
theorem evb_mod (l : List Int) : ∀ x y : Int, x % 18446744073709551616 = y % 18446744073709551616 → wrap64 (evb x l) = wrap64 (evb y l) := by
  induction l with
  | nil => intro x y h; simp only [evb]; unfold wrap64; omega
  | cons c r ih => intro x y h; simp only [evb]; exact ih _ _ (by omega)
theorem rtake_l0 (l : List Int) (size : Nat) (hs : size ≤ 8) (hl : size ≤ l.length) (ho : octs l) (hll : l.length ≤ 1000000000000) (e : Nat) : ∀ (k i : Nat) (u : Int), size - i = e → i ≤ size → e + 1 ≤ k →
    fullerref08_Take.l0 k l (size : Int) u (i : Int) = some (wrap64 (evb u ((l.take size).drop i)), l.drop size, 0) := by
  induction e with
  | zero =>
    intro k i u hd hi hk
    obtain ⟨k, rfl⟩ : ∃ q, k = q + 1 := ⟨k - 1, by omega⟩
    have hd0 : (l.take size).drop i = [] := List.drop_eq_nil_of_le (by simp; omega)
    rw [fullerref08_Take.l0, if_neg (by omega), if_pos (by omega), if_pos (by omega), hd0, Int.toNat_natCast]
    rfl
  | succ e ih =>
    intro k i u hd hi hk
    obtain ⟨k, rfl⟩ : ∃ q, k = q + 1 := ⟨k - 1, by omega⟩
    have hlt : i < l.length := by omega
    have hw : wrap64 ((i : Int) + 1) = ((i + 1 : Nat) : Int) := by rw [w64 (by omega) (by omega)]; omega
    have hlt2 : i < (l.take size).length := by simp; omega
    rw [fullerref08_Take.l0, if_pos (by omega), if_pos (by omega), if_pos (by omega), rd_lt hlt, hw, ih k (i + 1) _ (by omega) (by omega) (by omega), List.drop_eq_getElem_cons hlt2, List.getElem_take, evb]
    rw [evb_mod _ _ (u * 256 + l[i]) (by rw [u64_wrap, u64_wrap, u64_wrap]; omega)]
theorem rtake_f (l : List Int) (size : Int) (ho : octs l) (hll : l.length ≤ 1000000000000) (k : Nat) (hk : 20 ≤ k) : fullerref08_Take.f k l size = some (pkTake l size) := by
  unfold fullerref08_Take.f pkTake
  obtain ⟨k, rfl⟩ : ∃ q, k = q + 1 := ⟨k - 1, by omega⟩
  have main : okSize size = true → fullerref08_Take.j0 (k + 1) l size (decide ((l.length : Int) < size)) = some (if okSize size = true ∧ size ≤ (l.length : Int) then (tkl 0 (l.take size.toNat), l.drop size.toNat, 0) else (0, [], 40)) := by
    intro hs
    have hp := ok_pos hs
    rw [fullerref08_Take.j0]
    by_cases h : (l.length : Int) < size
    · rw [decide_eq_true h, if_pos rfl, if_neg (by omega)]
    · rw [decide_eq_false h, if_neg (by simp), if_pos ⟨hs, by omega⟩]
      have := rtake_l0 l size.toNat (by omega) (by omega) ho hll size.toNat k 0 0 (by omega) (by omega) (by omega)
      rw [show ((size.toNat : Nat) : Int) = size by omega] at this
      simp only [Int.natCast_zero, List.drop_zero] at this
      rw [this, tkl_zero _ (octs_take ho _)]
  by_cases h1 : size = 1
  · rw [if_pos h1]; exact main (by simp [okSize, h1])
  · rw [if_neg h1]
    by_cases h2 : size = 2
    · rw [if_pos h2]; exact main (by simp [okSize, h2])
    · rw [if_neg h2]
      by_cases h8 : size = 8
      · rw [if_pos h8]; exact main (by simp [okSize, h8])
      · rw [if_neg h8, fullerref08_Take.j0, if_pos rfl, if_neg (by simp [okSize, h1, h2, h8])]
end Go.Proofs.Ytchmfdaebohplaa.Plain
