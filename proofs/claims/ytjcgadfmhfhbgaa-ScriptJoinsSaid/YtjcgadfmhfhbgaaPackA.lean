/- Plain facts on packed numbers: what bytes say, and what a number's, and a list's, bytes are taken as; no conditions. -/
import Derived.Test.YtjcgadfmhfhbgaaTenA
import Derived.Lib.Bytes
import Derived.Test.YtjcgadfmhfhbgaaAx6
import Derived.Test.YtjcgadfmhfhbgaaAx8
import Derived.Test.YtjcgadfmhfhbgaaAx5
namespace Go.Proofs.Ytjcgadfmhfhbgaa.Plain
open Go.RowKit Go.Proofs.Ytjcgadfmhfhbgaa.A Go.Proofs.YtjcgadfmhfhbgaaW.PrintWords Go.Proofs.YtjcgadfmhfhbgaaW.PrintLast Go.Proofs.YtjcgadfmhfhbgaaW.PrintMore
set_option linter.unusedVariables false
set_option linter.unusedSimpArgs false
def evb : Int → List Int → Int
  | x, [] => x
  | x, c :: r => evb (x * 256 + c) r
def octs (l : List Int) : Prop := ∀ x ∈ l, 0 ≤ x ∧ x < 256
theorem or_step (x c : Int) (hc : 0 ≤ c) (hc' : c < 256) : Go.bits .or .i64 (wrap64 (x * 256)) (wrap64 c) = wrap64 (x * 256 + c) := by
  have hw : wrap64 c = c := w64 (by omega) (by omega)
  have e1 : (wrap64 (x * 256)) % 18446744073709551616 = (x * 256) % 18446744073709551616 := by unfold wrap64; omega
  obtain ⟨q, hq⟩ : ∃ q : Nat, ((x * 256) % 18446744073709551616).toNat = 2 ^ 8 * q := ⟨((x * 256) % 18446744073709551616).toNat / 256, by omega⟩
  obtain ⟨b, rfl⟩ : ∃ b : Nat, c = (b : Int) := ⟨c.toNat, by omega⟩
  have hb : b < 2 ^ 8 := by omega
  have h2 : ((b : Int) % 18446744073709551616).toNat = b := by omega
  rw [hw]
  show IntKind.i64.wrap (((BitVec.ofInt 64 (wrap64 (x * 256)) ||| BitVec.ofInt 64 (b : Int)).toNat : Nat) : Int) = _
  rw [BitVec.toNat_or, BitVec.toNat_ofInt, BitVec.toNat_ofInt]
  have hp : ((2 : Nat) ^ 64 : Nat) = 18446744073709551616 := by decide
  have hp' : (((2 : Nat) ^ 64 : Nat) : Int) = 18446744073709551616 := by decide
  simp only [hp']
  rw [e1, hq, h2, ← Nat.two_pow_add_eq_or_of_lt hb]
  have e3 : ((2 ^ 8 * q + b : Nat) : Int) = (x * 256) % 18446744073709551616 + (b : Int) := by omega
  rw [e3]
  rw [Go.IntKind.wrap_i64]
  clear e1 hq h2 hw e3 hp hp'
  unfold wrap64
  omega
theorem wrap_step (x c : Int) : wrap64 (wrap64 x * 256 + c) = wrap64 (x * 256 + c) := by
  unfold wrap64
  omega
theorem tkl_evb (l : List Int) : ∀ x, octs l → tkl (wrap64 x) l = wrap64 (evb x l) := by
  induction l with
  | nil => intro x _; rfl
  | cons c r ih =>
    intro x h
    have hc := h c (by simp)
    rw [tkl, or_step _ _ hc.1 hc.2, wrap_step, evb]
    exact ih _ (fun y hy => h y (by simp [hy]))
theorem tkl_zero (l : List Int) (h : octs l) : tkl 0 l = wrap64 (evb 0 l) := by
  have h1 := tkl_evb l 0 h
  rwa [w64 (x := 0) (by omega) (by omega)] at h1
theorem mod_split (n P : Int) (hP : 0 < P) : n % (P * 256) = P * (n / P % 256) + n % P := by
  have h1 := Int.mul_ediv_add_emod n P
  have h2 := Int.mul_ediv_add_emod (n / P) 256
  have h3 := Int.emod_nonneg n (by omega : P ≠ 0)
  have h4 := Int.emod_lt_of_pos n hP
  have h5 := Int.emod_nonneg (n / P) (by omega : (256 : Int) ≠ 0)
  have h6 := Int.emod_lt_of_pos (n / P) (by omega : (0 : Int) < 256)
  generalize n / P % 256 = d at *
  generalize n % P = r at *
  generalize n / P / 256 = e at *
  have h7 : n = (P * d + r) + P * 256 * e := by
    rw [← h1, ← h2]
    rw [Int.mul_add, ← Int.mul_assoc]
    omega
  have h8 : 0 ≤ P * d := Int.mul_nonneg (by omega) h5
  have h9 : P * d ≤ P * 255 := Int.mul_le_mul_of_nonneg_left (by omega) (by omega)
  rw [h7, Int.add_mul_emod_self_left]
  exact Int.emod_eq_of_lt (by omega) (by omega)
theorem evb_bytes (n : Int) (m : Nat) : ∀ x, evb x (pkBytes m n) = x * 2 ^ (8 * m) + n % 2 ^ (8 * m) := by
  induction m with
  | zero => intro x; simp [pkBytes, evb, Int.emod_one]
  | succ m ih =>
    intro x
    have hP : (0 : Int) < 2 ^ (8 * m) := Int.pow_pos (by omega)
    have e : (2 : Int) ^ (8 * (m + 1)) = 2 ^ (8 * m) * 256 := by rw [Nat.mul_add, Int.pow_add]; rfl
    rw [pkBytes, evb, ih, e, mod_split n _ hP]
    generalize (2 : Int) ^ (8 * m) = P
    rw [Int.add_mul, Int.mul_comm (n / P % 256) P, Int.mul_assoc x 256 P, Int.mul_comm 256 P, ← Int.mul_assoc]
    omega
theorem octs_bytes (n : Int) (m : Nat) : octs (pkBytes m n) := by
  induction m with
  | zero => intro x hx; simp [pkBytes] at hx
  | succ m ih =>
    intro x hx
    simp only [pkBytes, List.mem_cons] at hx
    rcases hx with rfl | hx
    · omega
    · exact ih x hx
theorem octs_append {a b : List Int} (ha : octs a) (hb : octs b) : octs (a ++ b) := by
  intro x hx
  rcases List.mem_append.mp hx with h | h
  · exact ha x h
  · exact hb x h
theorem octs_all (size : Int) (l : List Int) : octs (pkAll size l) := by
  induction l with
  | nil => intro x hx; simp [pkAll] at hx
  | cons a l ih => exact octs_append (octs_bytes _ _) ih
theorem take_bytes (n size : Int) (h : pkMay n size = true) (h1 : -9223372036854775808 ≤ n) (h2 : n ≤ 9223372036854775807) : tkl 0 (pkBytes size.toNat n) = n := by
  rw [tkl_zero _ (octs_bytes _ _), evb_bytes]
  rcases pkMay_cases h with ⟨rfl, a, b⟩ | ⟨rfl, a, b⟩ | rfl
  · show wrap64 (0 * 256 + n % 256) = n
    unfold wrap64; omega
  · show wrap64 (0 * 65536 + n % 65536) = n
    unfold wrap64; omega
  · show wrap64 (0 * 18446744073709551616 + n % 18446744073709551616) = n
    unfold wrap64; omega
theorem may_ok {n size : Int} (h : pkMay n size = true) : okSize size = true := by
  rcases pkMay_cases h with ⟨rfl, _⟩ | ⟨rfl, _⟩ | rfl <;> rfl
theorem ok_pos {size : Int} (h : okSize size = true) : 1 ≤ size ∧ size ≤ 8 := by
  rcases okSize_cases h with rfl | rfl | rfl <;> omega
theorem take_one (n size : Int) (t : List Int) (h : pkMay n size = true) (h1 : -9223372036854775808 ≤ n) (h2 : n ≤ 9223372036854775807) : pkTake (pkBytes size.toNat n ++ t) size = (n, t, 0) := by
  have hs := ok_pos (may_ok h)
  have hl : (pkBytes size.toNat n).length = size.toNat := pkBytes_length _ _
  have hle : size ≤ ((pkBytes size.toNat n ++ t).length : Int) := by rw [List.length_append, hl]; omega
  unfold pkTake
  rw [if_pos ⟨may_ok h, hle⟩, List.take_append_of_le_length (by omega), List.drop_append_of_le_length (by omega), List.take_of_length_le (by omega), List.drop_of_length_le (by omega), take_bytes n size h h1 h2]
  rfl
theorem tl_all (size : Int) (t : List Int) (l : List Int) (h : ∀ n ∈ l, pkMay n size = true ∧ -9223372036854775808 ≤ n ∧ n ≤ 9223372036854775807) : pkTL size l.length (pkAll size l ++ t) = some (l, t) := by
  induction l with
  | nil => rfl
  | cons n l ih =>
    obtain ⟨a, b, c⟩ := h n (by simp)
    have hs := ok_pos (may_ok a)
    have hl : (pkBytes size.toNat n).length = size.toNat := pkBytes_length _ _
    have hle : size ≤ ((pkBytes size.toNat n ++ (pkAll size l ++ t)).length : Int) := by rw [List.length_append, hl]; omega
    rw [List.length_cons, pkTL, pkAll, List.append_assoc, if_pos hle, List.take_append_of_le_length (by omega), List.drop_append_of_le_length (by omega), List.take_of_length_le (by omega), List.drop_of_length_le (by omega), take_bytes n size a b c, List.nil_append, ih (fun x hx => h x (by simp [hx]))]
    rfl
theorem tl_short (size : Int) (hs : 1 ≤ size) (m : Nat) : ∀ r : List Int, (r.length : Int) < size * m → pkTL size m r = none := by
  induction m with
  | zero => intro r h; simp at h; omega
  | succ m ih =>
    intro r h
    rw [pkTL]
    split
    · rename_i hle
      rw [ih (r.drop size.toNat) ?_]
      · rfl
      · have e : size * ((m + 1 : Nat) : Int) = size * m + size := by rw [Int.natCast_add, Int.mul_add]; simp
        rw [e] at h
        rw [List.length_drop]
        omega
    · rfl
theorem str_append (a b : List Int) : strOfNums (a ++ b) = strOfNums a ++ strOfNums b := by
  apply ByteArray.ext
  simp [strOfNums]
end Go.Proofs.Ytjcgadfmhfhbgaa.Plain
