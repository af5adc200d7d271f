/- Plain facts on packed numbers: what bytes say, and what a number's, and a list's, bytes are taken as; no conditions. -/
import Derived.Test.YtchmfdaebohplaaBase
import Derived.Lib.Bytes
import Derived.Test.YtchmfdaebohplaaAx3
import Derived.Test.YtchmfdaebohplaaAx4
import Derived.Test.YtchmfdaebohplaaAx5
namespace Go.Proofs.Ytchmfdaebohplaa.Plain
open Go.RowKit Go.Proofs.Ytchmfdaebohplaa.A Go.Proofs.YtchmfdaebohplaaW.PrintWords Go.Proofs.YtchmfdaebohplaaW.PrintLast Go.Proofs.YtchmfdaebohplaaW.PrintMore
set_option linter.unusedVariables false
set_option linter.unusedSimpArgs false
/-- The number that bytes say, behind a number. -/
def evb : Int → List Int → Int
  | x, [] => x
  | x, c :: r => evb (x * 256 + c) r
def octs (l : List Int) : Prop := ∀ x ∈ l, 0 ≤ x ∧ x < 256
theorem or_step (x c : Int) (hc : 0 ≤ c) (hc' : c < 256) : Go.bits .or .i64 (wrap64 (x * 256)) (wrap64 c) = wrap64 (x * 256 + c) := by
  have hw : wrap64 c = c := w64 (by omega) (by omega)
  have e1 : (wrap64 (x * 256)) % 18446744073709551616 = (x * 256) % 18446744073709551616 := by unfold wrap64; omega
  obtain ⟨q, hq⟩ : ∃ q : Nat, ((x * 256) % 18446744073709551616).toNat = 2 ^ 8 * q := ⟨((x * 256) % 18446744073709551616).toNat / 256, by omega⟩
  obtain ⟨b, rfl⟩ : ∃ b : Nat, c = (b : Int) := ⟨c.toNat, by omega⟩
  have hb : b < 2 ^ 8 := by omega
  have h2 : ((b : Int) % 18446744073709551616).toNat = b := by omega
  rw [hw]
  show IntKind.i64.wrap (((BitVec.ofInt 64 (wrap64 (x * 256)) ||| BitVec.ofInt 64 (b : Int)).toNat : Nat) : Int) = _
  rw [BitVec.toNat_or, BitVec.toNat_ofInt, BitVec.toNat_ofInt]
  have hp : ((2 : Nat) ^ 64 : Nat) = 18446744073709551616 := by decide
  have hp' : (((2 : Nat) ^ 64 : Nat) : Int) = 18446744073709551616 := by decide
  simp only [hp']
  rw [e1, hq, h2, ← Nat.two_pow_add_eq_or_of_lt hb]
  have e3 : ((2 ^ 8 * q + b : Nat) : Int) = (x * 256) % 18446744073709551616 + (b : Int) := by omega
  rw [e3]
  rw [Go.IntKind.wrap_i64]
  clear e1 hq h2 hw e3 hp hp'
  unfold wrap64
  omega
theorem wrap_step (x c : Int) : wrap64 (wrap64 x * 256 + c) = wrap64 (x * 256 + c) := by
  unfold wrap64
  omega
theorem tkl_evb (l : List Int) : ∀ x, octs l → tkl (wrap64 x) l = wrap64 (evb x l) := by
  induction l with
  | nil => intro x _; rfl
  | cons c r ih =>
    intro x h
    have hc := h c (by simp)
    rw [tkl, or_step _ _ hc.1 hc.2, wrap_step, evb]
    exact ih _ (fun y hy => h y (by simp [hy]))
theorem tkl_zero (l : List Int) (h : octs l) : tkl 0 l = wrap64 (evb 0 l) := by
  have h1 := tkl_evb l 0 h
  rwa [w64 (x := 0) (by omega) (by omega)] at h1
theorem mod_split (n P : Int) (hP : 0 < P) : n % (P * 256) = P * (n / P % 256) + n % P := by
  have h1 := Int.mul_ediv_add_emod n P
  have h2 := Int.mul_ediv_add_emod (n / P) 256
  have h3 := Int.emod_nonneg n (by omega : P ≠ 0)
  have h4 := Int.emod_lt_of_pos n hP
  have h5 := Int.emod_nonneg (n / P) (by omega : (256 : Int) ≠ 0)
  have h6 := Int.emod_lt_of_pos (n / P) (by omega : (0 : Int) < 256)
  generalize n / P % 256 = d at *
  generalize n % P = r at *
  generalize n / P / 256 = e at *
  have h7 : n = (P * d + r) + P * 256 * e := by
    rw [← h1, ← h2]
    rw [Int.mul_add, ← Int.mul_assoc]
    omega
  have h8 : 0 ≤ P * d := Int.mul_nonneg (by omega) h5
  have h9 : P * d ≤ P * 255 := Int.mul_le_mul_of_nonneg_left (by omega) (by omega)
  rw [h7, Int.add_mul_emod_self_left]
  exact Int.emod_eq_of_lt (by omega) (by omega)
theorem evb_bytes (n : Int) (m : Nat) : ∀ x, evb x (pkBytes m n) = x * 2 ^ (8 * m) + n % 2 ^ (8 * m) := by
  induction m with
  | zero => intro x; simp [pkBytes, evb, Int.emod_one]
  | succ m ih =>
    intro x
    have hP : (0 : Int) < 2 ^ (8 * m) := Int.pow_pos (by omega)
    have e : (2 : Int) ^ (8 * (m + 1)) = 2 ^ (8 * m) * 256 := by rw [Nat.mul_add, Int.pow_add]; rfl
    rw [pkBytes, evb, ih, e, mod_split n _ hP]
    generalize (2 : Int) ^ (8 * m) = P
    rw [Int.add_mul, Int.mul_comm (n / P % 256) P, Int.mul_assoc x 256 P, Int.mul_comm 256 P, ← Int.mul_assoc]
    omega
theorem octs_bytes (n : Int) (m : Nat) : octs (pkBytes m n) := by
  induction m with
  | zero => intro x hx; simp [pkBytes] at hx
  | succ m ih =>
    intro x hx
    simp only [pkBytes, List.mem_cons] at hx
    rcases hx with rfl | hx
    · omega
    · exact ih x hx
theorem octs_append {a b : List Int} (ha : octs a) (hb : octs b) : octs (a ++ b) := by
  intro x hx
  rcases List.mem_append.mp hx with h | h
  · exact ha x h
  · exact hb x h
theorem octs_all (size : Int) (l : List Int) : octs (pkAll size l) := by
  induction l with
  | nil => intro x hx; simp [pkAll] at hx
  | cons a l ih => exact octs_append (octs_bytes _ _) ih
/-- What was put is taken. -/
theorem take_bytes (n size : Int) (h : pkMay n size = true) (h1 : -9223372036854775808 ≤ n) (h2 : n ≤ 9223372036854775807) : tkl 0 (pkBytes size.toNat n) = n := by
  rw [tkl_zero _ (octs_bytes _ _), evb_bytes]
  rcases pkMay_cases h with ⟨rfl, a, b⟩ | ⟨rfl, a, b⟩ | rfl
  · show wrap64 (0 * 256 + n % 256) = n
    unfold wrap64; omega
  · show wrap64 (0 * 65536 + n % 65536) = n
    unfold wrap64; omega
  · show wrap64 (0 * 18446744073709551616 + n % 18446744073709551616) = n
    unfold wrap64; omega
theorem may_ok {n size : Int} (h : pkMay n size = true) : okSize size = true := by
  rcases pkMay_cases h with ⟨rfl, _⟩ | ⟨rfl, _⟩ | rfl <;> rfl
theorem ok_pos {size : Int} (h : okSize size = true) : 1 ≤ size ∧ size ≤ 8 := by
  rcases okSize_cases h with rfl | rfl | rfl <;> omega
theorem take_one (n size : Int) (t : List Int) (h : pkMay n size = true) (h1 : -9223372036854775808 ≤ n) (h2 : n ≤ 9223372036854775807) : pkTake (pkBytes size.toNat n ++ t) size = (n, t, 0) := by
  have hs := ok_pos (may_ok h)
  have hl : (pkBytes size.toNat n).length = size.toNat := pkBytes_length _ _
  have hle : size ≤ ((pkBytes size.toNat n ++ t).length : Int) := by rw [List.length_append, hl]; omega
  unfold pkTake
  rw [if_pos ⟨may_ok h, hle⟩, List.take_append_of_le_length (by omega), List.drop_append_of_le_length (by omega), List.take_of_length_le (by omega), List.drop_of_length_le (by omega), take_bytes n size h h1 h2]
  rfl
theorem tl_all (size : Int) (t : List Int) (l : List Int) (h : ∀ n ∈ l, pkMay n size = true ∧ -9223372036854775808 ≤ n ∧ n ≤ 9223372036854775807) : pkTL size l.length (pkAll size l ++ t) = some (l, t) := by
  induction l with
  | nil => rfl
  | cons n l ih =>
    obtain ⟨a, b, c⟩ := h n (by simp)
    have hs := ok_pos (may_ok a)
    have hl : (pkBytes size.toNat n).length = size.toNat := pkBytes_length _ _
    have hle : size ≤ ((pkBytes size.toNat n ++ (pkAll size l ++ t)).length : Int) := by rw [List.length_append, hl]; omega
    rw [List.length_cons, pkTL, pkAll, List.append_assoc, if_pos hle, List.take_append_of_le_length (by omega), List.drop_append_of_le_length (by omega), List.take_of_length_le (by omega), List.drop_of_length_le (by omega), take_bytes n size a b c, List.nil_append, ih (fun x hx => h x (by simp [hx]))]
    rfl
theorem tl_short (size : Int) (hs : 1 ≤ size) (m : Nat) : ∀ r : List Int, (r.length : Int) < size * m → pkTL size m r = none := by
  induction m with
  | zero => intro r h; simp at h; omega
  | succ m ih =>
    intro r h
    rw [pkTL]
    split
    · rename_i hle
      rw [ih (r.drop size.toNat) ?_]
      · rfl
      · have e : size * ((m + 1 : Nat) : Int) = size * m + size := by rw [Int.natCast_add, Int.mul_add]; simp
        rw [e] at h
        rw [List.length_drop]
        omega
    · rfl
theorem str_list (l : List Int) : (strOfNums l).toList = l.map (fun n => UInt8.ofNat n.toNat) := by
  rw [Go.Lib.strOfNums_toList]; rfl
theorem str_append (a b : List Int) : strOfNums (a ++ b) = strOfNums a ++ strOfNums b := by
  apply ByteArray.ext
  simp [strOfNums]
theorem all_length (size : Int) : ∀ l : List Int, (pkAll size l).length = size.toNat * l.length
  | [] => by simp [pkAll]
  | n :: l => by simp only [pkAll, List.length_append, pkBytes_length, all_length size l, List.length_cons, Nat.mul_add, Nat.mul_one]; omega
theorem all_append (size : Int) : ∀ l m : List Int, pkAll size (l ++ m) = pkAll size l ++ pkAll size m
  | [], m => rfl
  | n :: l, m => by simp only [List.cons_append, pkAll, all_append size l m, List.append_assoc]
theorem many_ok {b : List Int} (h : octs b) : 0 ≤ tkl 0 (b.take 1) ∧ tkl 0 (b.take 1) ≤ 255 := by
  cases b with
  | nil => exact ⟨by decide, by decide⟩
  | cons c r =>
    have hc := h c List.mem_cons_self
    have ho : octs [c] := fun x hx => by obtain rfl := List.mem_singleton.1 hx; exact hc
    rw [show (c :: r).take 1 = [c] from rfl, tkl_zero _ ho]
    simp only [evb]
    rw [w64 (by omega) (by omega)]
    omega
theorem tkl_head {c : Int} {r : List Int} (hc : 0 ≤ c ∧ c < 256) : tkl 0 ((c :: r).take 1) = c := by
  have ho : octs [c] := fun x hx => by obtain rfl := List.mem_singleton.1 hx; exact hc
  rw [show (c :: r).take 1 = [c] from rfl, tkl_zero _ ho]
  simp only [evb]
  rw [w64 (by omega) (by omega)]
  omega
theorem tl_len (size : Int) (m : Nat) : ∀ (r : List Int) (p : List Int × List Int), pkTL size m r = some p → p.2.length ≤ r.length ∧ p.1.length = m := by
  induction m with
  | zero => intro r p h; simp only [pkTL, Option.some.injEq] at h; subst h; exact ⟨Nat.le_refl _, rfl⟩
  | succ m ih =>
    intro r p h
    rw [pkTL] at h
    split at h
    · cases hq : pkTL size m (r.drop size.toNat) with
      | none => rw [hq] at h; cases h
      | some q =>
        rw [hq] at h
        simp only [Option.map_some, Option.some.injEq] at h
        subst h
        have := ih _ q hq
        simp only [List.length_drop] at this
        exact ⟨by simp only; omega, by simp [this.2]⟩
    · cases h
theorem tlist_len (b : List Int) : (pkTakeList b 1).2.1.length ≤ b.length := by
  unfold pkTakeList
  split
  · cases h : pkTL 1 (tkl 0 (b.take 1)).toNat (b.drop 1) with
    | none => simp
    | some p =>
      have := tl_len 1 _ _ p h
      simp only [List.length_drop] at this
      simp only
      omega
  · simp
theorem back1 {c : Int} (h : 0 ≤ c ∧ c < 256) : pkBytes 1 (tkl 0 [c]) = [c] := by
  have ho : octs [c] := fun x hx => by obtain rfl := List.mem_singleton.1 hx; exact h
  rw [tkl_zero _ ho]
  simp only [evb, pkBytes, Nat.mul_zero]
  rw [w64 (by omega) (by omega)]
  have : (0 * 256 + c) / 2 ^ 0 % 256 = c := by
    rw [Int.pow_zero, Int.ediv_one]; omega
  rw [this]
theorem back8 {c : List Int} (hl : c.length = 8) (h : octs c) : pkBytes 8 (tkl 0 c) = c := by
  match c, hl with
  | [a0, a1, a2, a3, a4, a5, a6, a7], _ =>
    rw [tkl_zero _ h]
    have h0 := h a0 (by simp); have h1 := h a1 (by simp); have h2 := h a2 (by simp); have h3 := h a3 (by simp)
    have h4 := h a4 (by simp); have h5 := h a5 (by simp); have h6 := h a6 (by simp); have h7 := h a7 (by simp)
    clear h
    simp only [evb, pkBytes, Nat.reduceMul]
    obtain ⟨v, hv⟩ : ∃ v, v = ((((((((0 * 256 + a0) * 256 + a1) * 256 + a2) * 256 + a3) * 256 + a4) * 256 + a5) * 256 + a6) * 256 + a7) := ⟨_, rfl⟩
    rw [← hv]
    have hw : ∃ q : Int, wrap64 v = v + 18446744073709551616 * q := by
      unfold wrap64
      exact ⟨-((v + 9223372036854775808) / 18446744073709551616), by omega⟩
    obtain ⟨q, hq⟩ := hw
    rw [hq]
    have e7 : (2 : Int) ^ 56 = 72057594037927936 := by decide
    have e6 : (2 : Int) ^ 48 = 281474976710656 := by decide
    have e5 : (2 : Int) ^ 40 = 1099511627776 := by decide
    have e4 : (2 : Int) ^ 32 = 4294967296 := by decide
    have e3 : (2 : Int) ^ 24 = 16777216 := by decide
    have e2 : (2 : Int) ^ 16 = 65536 := by decide
    have e1 : (2 : Int) ^ 8 = 256 := by decide
    have e0 : (2 : Int) ^ 0 = 1 := by decide
    rw [e7, e6, e5, e4, e3, e2, e1, e0]
    clear hq e7 e6 e5 e4 e3 e2 e1 e0
    have c0 : (v + 18446744073709551616 * q) / 72057594037927936 % 256 = a0 := by omega
    have c1 : (v + 18446744073709551616 * q) / 281474976710656 % 256 = a1 := by omega
    have c2 : (v + 18446744073709551616 * q) / 1099511627776 % 256 = a2 := by omega
    have c3 : (v + 18446744073709551616 * q) / 4294967296 % 256 = a3 := by omega
    have c4 : (v + 18446744073709551616 * q) / 16777216 % 256 = a4 := by omega
    have c5 : (v + 18446744073709551616 * q) / 65536 % 256 = a5 := by omega
    have c6 : (v + 18446744073709551616 * q) / 256 % 256 = a6 := by omega
    have c7 : (v + 18446744073709551616 * q) / 1 % 256 = a7 := by omega
    rw [c0, c1, c2, c3, c4, c5, c6, c7]
theorem octs_take {l : List Int} (h : octs l) (n : Nat) : octs (l.take n) := fun x hx => h x (List.mem_of_mem_take hx)
theorem octs_drop {l : List Int} (h : octs l) (n : Nat) : octs (l.drop n) := fun x hx => h x (List.mem_of_mem_drop hx)
theorem tkl_range {c : List Int} (h : octs c) : -9223372036854775808 ≤ tkl 0 c ∧ tkl 0 c ≤ 9223372036854775807 := by
  rw [tkl_zero _ h]
  unfold wrap64
  omega
theorem tl_inv8 (m : Nat) : ∀ (r : List Int) (p : List Int × List Int), octs r → pkTL 8 m r = some p → r = pkAll 8 p.1 ++ p.2 ∧ octs p.2 ∧ ∀ n ∈ p.1, -9223372036854775808 ≤ n ∧ n ≤ 9223372036854775807 := by
  induction m with
  | zero => intro r p ho h; simp only [pkTL, Option.some.injEq] at h; subst h; exact ⟨rfl, ho, fun n hn => by cases hn⟩
  | succ m ih =>
    intro r p ho h
    rw [pkTL] at h
    split at h
    · rename_i h8
      cases hq : pkTL 8 m (r.drop (8 : Int).toNat) with
      | none => rw [hq] at h; cases h
      | some q =>
        rw [hq] at h
        simp only [Option.map_some, Option.some.injEq] at h
        subst h
        obtain ⟨h1, h2, h3⟩ := ih _ q (octs_drop ho _) hq
        have e8 : (8 : Int).toNat = 8 := rfl
        rw [e8] at h1 hq ⊢
        refine ⟨?_, h2, fun n hn => ?_⟩
        · simp only [pkAll, e8]
          rw [back8 (by simp only [List.length_take]; omega) (octs_take ho 8), List.append_assoc, ← h1, List.take_append_drop]
        · rcases List.mem_cons.1 hn with rfl | hn
          · exact tkl_range (octs_take ho 8)
          · exact h3 n hn
    · cases h
theorem tl_inv1 (m : Nat) : ∀ (r : List Int) (p : List Int × List Int), octs r → pkTL 1 m r = some p → r = pkAll 1 p.1 ++ p.2 ∧ octs p.2 := by
  induction m with
  | zero => intro r p ho h; simp only [pkTL, Option.some.injEq] at h; subst h; exact ⟨rfl, ho⟩
  | succ m ih =>
    intro r p ho h
    rw [pkTL] at h
    split at h
    · rename_i h8
      cases hq : pkTL 1 m (r.drop (1 : Int).toNat) with
      | none => rw [hq] at h; cases h
      | some q =>
        rw [hq] at h
        simp only [Option.map_some, Option.some.injEq] at h
        subst h
        obtain ⟨h1, h2⟩ := ih _ q (octs_drop ho _) hq
        have e8 : (1 : Int).toNat = 1 := rfl
        rw [e8] at h1 hq ⊢
        refine ⟨?_, h2⟩
        cases r with
        | nil => simp at h8
        | cons c r =>
          simp only [pkAll, e8]
          rw [show (c :: r).take 1 = [c] from rfl, back1 (ho c List.mem_cons_self), List.append_assoc, ← h1]
          rfl
    · cases h
theorem may8 (n : Int) : pkMay n 8 = true := by simp [pkMay]
end Go.Proofs.Ytchmfdaebohplaa.Plain
