/- What the document's functions of layers 8 and 9 answer: the same as the program's; no conditions. -/
import Derived.Test.YtfoffgbhfokccaaImageA
import Derived.Test.YtfoffgbhfokccaaBaseR
import Derived.Test.YtfoffgbhfokccaaAx7
import Derived.Test.YtfoffgbhfokccaaAx8
import Derived.Test.YtfoffgbhfokccaaAx9
import Derived.Test.YtfoffgbhfokccaaAx10
import Derived.Test.YtfoffgbhfokccaaAx11
namespace Go.Proofs.Ytfoffgbhfokccaa.Plain
open Go.RowKit Go.Proofs.Ytfoffgbhfokccaa.A Go.Proofs.YtfoffgbhfokccaaW.PrintWords Go.Proofs.YtfoffgbhfokccaaW.PrintLast Go.Proofs.YtfoffgbhfokccaaW.PrintMore
set_option linter.unusedVariables false
set_option linter.unusedSimpArgs false

theorem rtcheck_f (s d : List Int) (k : Nat) (hk : 10 ≤ k) : fullerref03_Check.f k s d = some (tchk s d) := by
  unfold fullerref03_Check.f tchk
  rw [rcheck_f s k hk]
  simp only [Option.bind_some]
  cases h : chk s with
  | false => simp
  | true =>
    rw [if_pos rfl, rsize_f s k hk]
    simp only [Option.bind_some, Bool.true_and]
    by_cases h : (d.length : Int) = siz s <;> simp [h]
theorem rmay_f (n size : Int) : fullerref08_may.f n size = some (pkMay n size) := by
  unfold fullerref08_may.f pkMay
  by_cases h1 : size = 1
  · subst h1
    by_cases h0 : n ≥ 0
    · by_cases h2 : n ≤ 255 <;> simp [h0, h2]
    · have : ¬ 0 ≤ n := h0
      simp [h0]
  · by_cases h2 : size = 2
    · subst h2
      by_cases h0 : n ≥ 0
      · by_cases h3 : n ≤ 65535 <;> simp [h0, h3]
      · have : ¬ 0 ≤ n := h0
        simp [h0]
    · simp [h1, h2]
theorem bytes_last (u : Int) : ∀ m, pkBytes (m + 1) u = pkBytes m (u / 256) ++ [u % 256]
  | 0 => by simp [pkBytes]
  | m + 1 => by
    rw [pkBytes, bytes_last u m]
    conv => rhs; rw [pkBytes]
    have e : u / 2 ^ (8 * (m + 1)) = u / 256 / 2 ^ (8 * m) := by
      rw [Nat.mul_add, Int.pow_add, Int.mul_comm, Int.ediv_ediv_of_nonneg (by decide)]
      rfl
    rw [e]
    rfl
theorem rbytes_l0 (size : Nat) (hs : size ≤ 8) (e : Nat) : ∀ (k i : Nat) (u : Int) (out : List Int), size - i = e → i ≤ size → e + 1 ≤ k → 0 ≤ u → u < 18446744073709551616 → out.length ≤ 8 →
    out.length = i → fullerref08_bytes.l0 k (size : Int) u out (i : Int) = some (pkBytes e u ++ out) := by
  induction e with
  | zero =>
    intro k i u out hd hi hk h0 h1 ho hoi
    obtain ⟨k, rfl⟩ : ∃ q, k = q + 1 := ⟨k - 1, by omega⟩
    rw [fullerref08_bytes.l0, if_neg (by omega)]
    rfl
  | succ e ih =>
    intro k i u out hd hi hk h0 h1 ho hoi
    obtain ⟨k, rfl⟩ : ∃ q, k = q + 1 := ⟨k - 1, by omega⟩
    have hw : wrap64 ((i : Int) + 1) = ((i + 1 : Nat) : Int) := by rw [w64 (by omega) (by omega)]; omega
    have e1 : Int.tmod u 256 % 256 = u % 256 := by rw [Int.tmod_eq_emod_of_nonneg h0]; omega
    have e2 : IntKind.u64.wrap (Int.tdiv u 256) = u / 256 := by
      rw [Int.tdiv_eq_ediv_of_nonneg h0]
      simp only [IntKind.wrap, IntKind.signed, IntKind.bits, Bool.false_and, Bool.false_eq_true, if_false]
      omega
    rw [fullerref08_bytes.l0, if_pos (by omega)]
    simp only [Option.bind_some, List.length_singleton]
    rw [if_pos (by omega), hw, e2, ih k (i + 1) _ _ (by omega) (by omega) (by omega) (by omega) (by omega) (by simp; omega) (by simp; omega), bytes_last, e1]
    simp
theorem u64_wrap (x : Int) : IntKind.u64.wrap x = x % 18446744073709551616 := by
  simp only [IntKind.wrap, IntKind.signed, IntKind.bits, Bool.false_and, Bool.false_eq_true, if_false]
  rfl
theorem bytes_mod (n : Int) : pkBytes 8 (n % 18446744073709551616) = pkBytes 8 n ∧ pkBytes 1 (n % 18446744073709551616) = pkBytes 1 n ∧ pkBytes 2 (n % 18446744073709551616) = pkBytes 2 n := by
  have e7 : (2 : Int) ^ 56 = 72057594037927936 := by decide
  have e6 : (2 : Int) ^ 48 = 281474976710656 := by decide
  have e5 : (2 : Int) ^ 40 = 1099511627776 := by decide
  have e4 : (2 : Int) ^ 32 = 4294967296 := by decide
  have e3 : (2 : Int) ^ 24 = 16777216 := by decide
  have e2 : (2 : Int) ^ 16 = 65536 := by decide
  have e1 : (2 : Int) ^ 8 = 256 := by decide
  have e0 : (2 : Int) ^ 0 = 1 := by decide
  simp only [pkBytes, Nat.reduceMul, e7, e6, e5, e4, e3, e2, e1, e0]
  have c0 : n % 18446744073709551616 / 72057594037927936 % 256 = n / 72057594037927936 % 256 := by omega
  have c1 : n % 18446744073709551616 / 281474976710656 % 256 = n / 281474976710656 % 256 := by omega
  have c2 : n % 18446744073709551616 / 1099511627776 % 256 = n / 1099511627776 % 256 := by omega
  have c3 : n % 18446744073709551616 / 4294967296 % 256 = n / 4294967296 % 256 := by omega
  have c4 : n % 18446744073709551616 / 16777216 % 256 = n / 16777216 % 256 := by omega
  have c5 : n % 18446744073709551616 / 65536 % 256 = n / 65536 % 256 := by omega
  have c6 : n % 18446744073709551616 / 256 % 256 = n / 256 % 256 := by omega
  have c7 : n % 18446744073709551616 / 1 % 256 = n / 1 % 256 := by omega
  rw [c0, c1, c2, c3, c4, c5, c6, c7]
  exact ⟨rfl, rfl, rfl⟩
theorem rbytes_f (n size : Int) (hs : okSize size = true) (k : Nat) (hk : 20 ≤ k) : fullerref08_bytes.f k n size = some (pkBytes size.toNat n) := by
  unfold fullerref08_bytes.f
  have hsz := ok_pos hs
  have h := rbytes_l0 size.toNat (by omega) size.toNat k 0 (n % 18446744073709551616) [] (by omega) (by omega) (by omega) (by omega) (by omega) (by simp) rfl
  rw [show ((size.toNat : Nat) : Int) = size by omega] at h
  simp only [Int.natCast_zero, List.append_nil] at h
  rw [u64_wrap, h]
  obtain ⟨h8, h1, h2⟩ := bytes_mod n
  rcases okSize_cases hs with rfl | rfl | rfl
  · exact congrArg some h1
  · exact congrArg some h2
  · exact congrArg some h8
theorem rpput_f (b : List Int) (n size : Int) (hb : b.length ≤ 100000000000000) (k : Nat) (hk : 20 ≤ k) : fullerref08_Put.f k b n size = some (pkPut b n size) := by
  unfold fullerref08_Put.f pkPut
  rw [rmay_f]
  simp only [Option.bind_some]
  cases h : pkMay n size with
  | false => simp
  | true =>
    have hl : (pkBytes size.toNat n).length ≤ 8 := by rw [pkBytes_length]; have := ok_pos (may_ok h); omega
    simp only [if_true, List.length_nil, Nat.zero_add, List.nil_append]
    rw [if_pos (by omega), rbytes_f n size (may_ok h) k hk]
    simp only [Option.bind_some]
    rw [if_pos (by omega)]
theorem rlist_l0 (l : List Int) (hl : l.length ≤ 255) (hm : ∀ n ∈ l, pkMay n 1 = true) (e : Nat) : ∀ (k i : Nat) (x : List Int), l.length - i = e → i ≤ l.length → e + 21 ≤ k → x.length + e ≤ 100000000000000 →
    fullerref08_List.l0 k l 1 x (i : Int) = some (x ++ pkAll 1 (l.drop i), 0) := by
  induction e with
  | zero =>
    intro k i x hd hi hk hx
    obtain ⟨k, rfl⟩ : ∃ q, k = q + 1 := ⟨k - 1, by omega⟩
    rw [fullerref08_List.l0, if_neg (by omega), List.drop_eq_nil_of_le (by omega), pkAll, List.append_nil]
  | succ e ih =>
    intro k i x hd hi hk hx
    obtain ⟨k, rfl⟩ : ∃ q, k = q + 1 := ⟨k - 1, by omega⟩
    have hlt : i < l.length := by omega
    have hw : wrap64 ((i : Int) + 1) = ((i + 1 : Nat) : Int) := by rw [w64 (by omega) (by omega)]; omega
    rw [fullerref08_List.l0, if_pos (by omega), if_pos (by omega), rd_lt hlt, rpput_f _ _ _ (by omega) k (by omega)]
    have hmi := hm _ (List.getElem_mem hlt)
    simp only [Option.bind_some, pkPut, hmi, if_true]
    rw [hw, ih k (i + 1) _ (by omega) (by omega) (by omega) (by simp only [List.length_append, pkBytes_length]; omega), dropT hlt, pkAll, List.append_assoc]
theorem rlist_f (b s : List Int) (hc : chk s = true) (hb : b.length ≤ 1000000000000) (k : Nat) (hk : 50 ≤ k) : fullerref08_List.f k b s 1 = some (b ++ ((s.length : Int) :: pkAll 1 s), 0) := by
  obtain ⟨h1, h2, _⟩ := chk_iff.mp hc
  unfold fullerref08_List.f
  obtain ⟨k, rfl⟩ : ∃ q, k = q + 1 := ⟨k - 1, by omega⟩
  rw [if_neg (by omega), if_pos rfl, fullerref08_List.j0, if_neg (by simp)]
  simp only [Option.bind_some, List.length_nil, Nat.zero_add, List.nil_append]
  rw [if_pos (by omega), if_pos (by omega)]
  have h := rlist_l0 s (by omega) (side_may h2) s.length k 0 (b ++ [((s.length : Int)) % 256]) (by omega) (by omega) (by omega) (by simp; omega)
  simp only [Int.natCast_zero, List.drop_zero] at h
  rw [h, show (s.length : Int) % 256 = (s.length : Int) by omega]
  simp
theorem riput_l0 (s d : List Int) (e : Nat) : ∀ (k i : Nat) (x : List Int), d.length - i = e → i ≤ d.length → e + 21 ≤ k → d.length ≤ 1000000 → x.length + 8 * d.length ≤ 100000000000000 + 8 * i →
    fullerref09_Put.l0 k x (i : Int) s d = some (x ++ pkAll 8 (d.drop i), 0) := by
  induction e with
  | zero =>
    intro k i x hd hi hk hdl hx
    obtain ⟨k, rfl⟩ : ∃ q, k = q + 1 := ⟨k - 1, by omega⟩
    rw [fullerref09_Put.l0, if_neg (by omega), List.drop_eq_nil_of_le (by omega), pkAll, List.append_nil]
  | succ e ih =>
    intro k i x hd hi hk hdl hx
    obtain ⟨k, rfl⟩ : ∃ q, k = q + 1 := ⟨k - 1, by omega⟩
    have hlt : i < d.length := by omega
    have hw : wrap64 ((i : Int) + 1) = ((i + 1 : Nat) : Int) := by rw [w64 (by omega) (by omega)]; omega
    rw [fullerref09_Put.l0, if_pos (by omega), if_pos (by omega), rd_lt hlt, rpput_f _ _ _ (by omega) k (by omega)]
    simp only [Option.bind_some, pkPut, may8, if_true]
    rw [hw, ih k (i + 1) _ (by omega) (by omega) (by omega) hdl (by simp only [List.length_append, pkBytes_length]; omega), dropT hlt, pkAll, List.append_assoc]
theorem riput_f (b s d : List Int) (hb : b.length ≤ 1000000000000) (k : Nat) (hk : 100 ≤ k) : fullerref09_Put.f k b s d = some (iput b s d) := by
  unfold fullerref09_Put.f iput
  rw [rtcheck_f s d k (by omega)]
  simp only [Option.bind_some]
  cases ht : tchk s d with
  | false => simp
  | true =>
    have hl := tchk_len ht
    have hc : chk s = true := by simp only [tchk, Bool.and_eq_true] at ht; exact ht.1
    rw [if_pos rfl, if_pos rfl, rlist_f b s hc hb k (by omega)]
    simp only [Option.bind_some]
    have h2 := riput_l0 s d d.length k 0 (b ++ ((s.length : Int) :: pkAll 1 s)) (by omega) (by omega) (by omega) (by omega) (by simp only [List.length_append, List.length_cons, all_length]; rw [show (1 : Int).toNat = 1 from rfl]; omega)
    simp only [Int.natCast_zero, List.drop_zero] at h2
    rw [h2]
    simp [encT]
theorem riwr_l0 (l : List S26) (hl : l.length ≤ 1000) (e : Nat) : ∀ (k i : Nat) (x : List Int), l.length - i = e → i ≤ l.length → e + 101 ≤ k → x.length ≤ 1000 * i →
    fullerref09_Write.l0 k l x (i : Int) = some (iwr x (l.drop i)) := by
  induction e with
  | zero =>
    intro k i x hd hi hk hx
    obtain ⟨k, rfl⟩ : ∃ q, k = q + 1 := ⟨k - 1, by omega⟩
    rw [fullerref09_Write.l0, if_neg (by omega), List.drop_eq_nil_of_le (by omega), iwr]
  | succ e ih =>
    intro k i x hd hi hk hx
    obtain ⟨k, rfl⟩ : ∃ q, k = q + 1 := ⟨k - 1, by omega⟩
    have hlt : i < l.length := by omega
    have hw : wrap64 ((i : Int) + 1) = ((i + 1 : Nat) : Int) := by rw [w64 (by omega) (by omega)]; omega
    rw [fullerref09_Write.l0, if_pos (by omega), if_pos (by omega), rdT hlt, dropT hlt, riput_f _ _ _ (by omega) k (by omega), iwr]
    simp only [Option.bind_some, iput]
    cases ht : tchk l[i].f0 l[i].f1 with
    | false => simp
    | true =>
      have hlen := tchk_len ht
      simp only [if_true]
      rw [hw, ih k (i + 1) _ (by omega) (by omega) (by omega) (by simp only [List.length_append, encT_length]; omega)]
theorem riwr_f (l : List S26) (hl : l.length ≤ 1000) (k : Nat) (hk : l.length + 101 ≤ k) : fullerref09_Write.f k l = some (iwr [] l) := by
  unfold fullerref09_Write.f
  have := riwr_l0 l hl l.length k 0 [] (by omega) (by omega) hk (by simp)
  simpa using this
/-! ### taken -/
theorem evb_mod (l : List Int) : ∀ x y : Int, x % 18446744073709551616 = y % 18446744073709551616 → wrap64 (evb x l) = wrap64 (evb y l) := by
  induction l with
  | nil => intro x y h; simp only [evb]; unfold wrap64; omega
  | cons c r ih => intro x y h; simp only [evb]; exact ih _ _ (by omega)
theorem rtake_l0 (l : List Int) (size : Nat) (hs : size ≤ 8) (hl : size ≤ l.length) (ho : octs l) (hll : l.length ≤ 1000000000000) (e : Nat) : ∀ (k i : Nat) (u : Int), size - i = e → i ≤ size → e + 1 ≤ k →
    fullerref08_Take.l0 k l (size : Int) u (i : Int) = some (wrap64 (evb u ((l.take size).drop i)), l.drop size, 0) := by
  induction e with
  | zero =>
    intro k i u hd hi hk
    obtain ⟨k, rfl⟩ : ∃ q, k = q + 1 := ⟨k - 1, by omega⟩
    have hd0 : (l.take size).drop i = [] := List.drop_eq_nil_of_le (by simp; omega)
    rw [fullerref08_Take.l0, if_neg (by omega), if_pos (by omega), if_pos (by omega), hd0, Int.toNat_natCast]
    rfl
  | succ e ih =>
    intro k i u hd hi hk
    obtain ⟨k, rfl⟩ : ∃ q, k = q + 1 := ⟨k - 1, by omega⟩
    have hlt : i < l.length := by omega
    have hw : wrap64 ((i : Int) + 1) = ((i + 1 : Nat) : Int) := by rw [w64 (by omega) (by omega)]; omega
    have hlt2 : i < (l.take size).length := by simp; omega
    rw [fullerref08_Take.l0, if_pos (by omega), if_pos (by omega), if_pos (by omega), rd_lt hlt, hw, ih k (i + 1) _ (by omega) (by omega) (by omega), List.drop_eq_getElem_cons hlt2, List.getElem_take, evb]
    rw [evb_mod _ _ (u * 256 + l[i]) (by rw [u64_wrap, u64_wrap, u64_wrap]; omega)]
theorem rtake_f (l : List Int) (size : Int) (ho : octs l) (hll : l.length ≤ 1000000000000) (k : Nat) (hk : 20 ≤ k) : fullerref08_Take.f k l size = some (pkTake l size) := by
  unfold fullerref08_Take.f pkTake
  obtain ⟨k, rfl⟩ : ∃ q, k = q + 1 := ⟨k - 1, by omega⟩
  have main : okSize size = true → fullerref08_Take.j0 (k + 1) l size (decide ((l.length : Int) < size)) = some (if okSize size = true ∧ size ≤ (l.length : Int) then (tkl 0 (l.take size.toNat), l.drop size.toNat, 0) else (0, [], 40)) := by
    intro hs
    have hp := ok_pos hs
    rw [fullerref08_Take.j0]
    by_cases h : (l.length : Int) < size
    · rw [decide_eq_true h, if_pos rfl, if_neg (by omega)]
    · rw [decide_eq_false h, if_neg (by simp), if_pos ⟨hs, by omega⟩]
      have := rtake_l0 l size.toNat (by omega) (by omega) ho hll size.toNat k 0 0 (by omega) (by omega) (by omega)
      rw [show ((size.toNat : Nat) : Int) = size by omega] at this
      simp only [Int.natCast_zero, List.drop_zero] at this
      rw [this, tkl_zero _ (octs_take ho _)]
  by_cases h1 : size = 1
  · rw [if_pos h1]; exact main (by simp [okSize, h1])
  · rw [if_neg h1]
    by_cases h2 : size = 2
    · rw [if_pos h2]; exact main (by simp [okSize, h2])
    · rw [if_neg h2]
      by_cases h8 : size = 8
      · rw [if_pos h8]; exact main (by simp [okSize, h8])
      · rw [if_neg h8, fullerref08_Take.j0, if_pos rfl, if_neg (by simp [okSize, h1, h2, h8])]
theorem pkTake_ok {r : List Int} {size : Int} (hs : okSize size = true) (h : size ≤ (r.length : Int)) : pkTake r size = (tkl 0 (r.take size.toNat), r.drop size.toNat, 0) := by unfold pkTake; rw [if_pos ⟨hs, h⟩]
theorem pkTake_bad {r : List Int} {size : Int} (h : ¬ size ≤ (r.length : Int)) : pkTake r size = (0, [], 40) := by unfold pkTake; rw [if_neg (fun hh => h hh.2)]
theorem rtl_l0 (m : Nat) (hm : m ≤ 255) (e : Nat) : ∀ (k i : Nat) (r out : List Int), m - i = e → i ≤ m → e + 30 ≤ k → octs r → r.length ≤ 1000000000000 → out.length = i →
    fullerref08_TakeList.l0 k 1 (m : Int) r out (i : Int) = some (match pkTL 1 e r with | some p => (out ++ p.1, p.2, 0) | none => ([], [], 40)) := by
  induction e with
  | zero =>
    intro k i r out hd hi hk ho hr hol
    obtain ⟨k, rfl⟩ : ∃ q, k = q + 1 := ⟨k - 1, by omega⟩
    rw [fullerref08_TakeList.l0, if_neg (by omega)]
    simp [pkTL]
  | succ e ih =>
    intro k i r out hd hi hk ho hr hol
    obtain ⟨k, rfl⟩ : ∃ q, k = q + 1 := ⟨k - 1, by omega⟩
    have hw : wrap64 ((i : Int) + 1) = ((i + 1 : Nat) : Int) := by rw [w64 (by omega) (by omega)]; omega
    rw [fullerref08_TakeList.l0, if_pos (by omega), rtake_f r 1 ho hr k (by omega), pkTL]
    simp only [Option.bind_some]
    by_cases h : (1 : Int) ≤ (r.length : Int)
    · rw [pkTake_ok rfl h, if_pos h]
      simp only [if_true]
      rw [if_pos (by omega), hw, ih k (i + 1) _ _ (by omega) (by omega) (by omega) (octs_drop ho _) (by simp only [List.length_drop]; omega) (by simp [hol])]
      cases pkTL 1 e (r.drop (1 : Int).toNat) with
      | none => rfl
      | some p => simp
    · rw [pkTake_bad h, if_neg h]
      simp
theorem rtlist_f (b : List Int) (ho : octs b) (hb : b.length ≤ 1000000000000) (k : Nat) (hk : 400 ≤ k) : fullerref08_TakeList.f k b 1 = some (pkTakeList b 1) := by
  unfold fullerref08_TakeList.f pkTakeList
  rw [rtake_f b 1 ho hb k (by omega)]
  simp only [Option.bind_some]
  obtain ⟨k, rfl⟩ : ∃ q, k = q + 1 := ⟨k - 1, by omega⟩
  by_cases h : (1 : Int) ≤ (b.length : Int)
  · rw [pkTake_ok rfl h]
    simp only [if_true]
    rw [if_pos ⟨rfl, by omega⟩, fullerref08_TakeList.j0, if_neg (by simp)]
    have hm := many_ok ho
    have := rtl_l0 (tkl 0 (b.take 1)).toNat (by omega) (tkl 0 (b.take 1)).toNat k 0 (b.drop 1) [] (by omega) (by omega) (by omega) (octs_drop ho 1) (by simp only [List.length_drop]; omega) rfl
    rw [show (((tkl 0 (b.take 1)).toNat : Nat) : Int) = tkl 0 (b.take 1) by omega] at this
    simp only [Int.natCast_zero, List.nil_append] at this
    exact this
  · rw [pkTake_bad h, if_neg (show ¬ (((0 : Int), ([] : List Int), (40 : Int)).2.2 = 0) from by decide), if_neg (fun hh => h (by omega)), fullerref08_TakeList.j0, if_pos rfl]
theorem ritake_l0 (s : List Int) (n : Nat) (hn : siz s = (n : Int)) (e : Nat) : ∀ (k i : Nat) (r out : List Int), n - i = e → i ≤ n → e + 30 ≤ k → octs r → r.length ≤ 1000000000000 → out.length = i →
    fullerref09_Take.l0 k s r (i : Int) s out = some (match pkTL 8 e r with | some p => (s, out ++ p.1, p.2, 0) | none => ([], [], [], 50)) := by
  have hs := siz_ok (s := s)
  induction e with
  | zero =>
    intro k i r out hd hi hk ho hr hol
    obtain ⟨k, rfl⟩ : ∃ q, k = q + 1 := ⟨k - 1, by omega⟩
    rw [fullerref09_Take.l0, rsize_f s k (by omega)]
    simp only [Option.bind_some]
    rw [if_neg (by omega)]
    simp [pkTL]
  | succ e ih =>
    intro k i r out hd hi hk ho hr hol
    obtain ⟨k, rfl⟩ : ∃ q, k = q + 1 := ⟨k - 1, by omega⟩
    have hw : wrap64 ((i : Int) + 1) = ((i + 1 : Nat) : Int) := by rw [w64 (by omega) (by omega)]; omega
    rw [fullerref09_Take.l0, rsize_f s k (by omega)]
    simp only [Option.bind_some]
    rw [if_pos (by omega), rtake_f r 8 ho hr k (by omega), pkTL]
    simp only [Option.bind_some]
    by_cases h : (8 : Int) ≤ (r.length : Int)
    · rw [pkTake_ok rfl h, if_pos h]
      simp only [if_true]
      rw [if_pos (by omega), hw, ih k (i + 1) _ _ (by omega) (by omega) (by omega) (octs_drop ho _) (by simp only [List.length_drop]; omega) (by simp [hol])]
      cases pkTL 8 e (r.drop (8 : Int).toNat) with
      | none => rfl
      | some p => simp
    · rw [pkTake_bad h, if_neg h]
      simp
theorem octs_tlist {b : List Int} (ho : octs b) : octs (pkTakeList b 1).2.1 := by
  unfold pkTakeList
  split
  · cases h : pkTL 1 (tkl 0 (b.take 1)).toNat (b.drop 1) with
    | none => intro x hx; cases hx
    | some p => exact (tl_inv1 _ _ _ (octs_drop ho 1) h).2
  · intro x hx; cases hx
theorem ritake_f (b : List Int) (ho : octs b) (hb : b.length ≤ 1000000000000) (k : Nat) (hk : 401 ≤ k) : fullerref09_Take.f k b = some (itake b) := by
  unfold fullerref09_Take.f itake
  rw [rtlist_f b ho hb k (by omega)]
  simp only [Option.bind_some]
  have hr := tlist_len b
  have hor := octs_tlist ho
  rw [rcheck_f _ k (by omega)]
  simp only [Option.bind_some]
  generalize (pkTakeList b 1).1 = s at hr ⊢
  generalize (pkTakeList b 1).2.1 = r at hr hor ⊢
  obtain ⟨k, rfl⟩ : ∃ q, k = q + 1 := ⟨k - 1, by omega⟩
  by_cases h0 : (pkTakeList b 1).2.2 = 0
  · rw [if_pos h0, fullerref09_Take.j0]
    cases hc : chk s with
    | false => rw [if_pos (by simp), if_neg (by simp)]
    | true =>
      have hs := siz_ok (s := s)
      rw [if_neg (by simp), if_pos ⟨h0, rfl⟩]
      have := ritake_l0 s (siz s).toNat (by omega) (siz s).toNat k 0 r [] (by omega) (by omega) (by omega) hor (by omega) rfl
      simp only [Int.natCast_zero, List.nil_append] at this
      rw [this]
      cases pkTL 8 (siz s).toNat r <;> rfl
  · rw [if_neg h0, fullerref09_Take.j0, if_pos rfl, if_neg (fun h => h0 h.1)]
theorem rird_l0 (n : Nat) : ∀ (k : Nat) (acc : List S26) (r : List Int), octs r → r.length ≤ n → n + 500 ≤ k → acc.length + n ≤ 1000000000000 →
    fullerref09_Read.l0 k r acc = some (if (ird n r).2 = 0 then (acc ++ (ird n r).1, 0) else ([], (ird n r).2)) := by
  induction n with
  | zero =>
    intro k acc r ho hr hk ha
    obtain ⟨k, rfl⟩ : ∃ q, k = q + 1 := ⟨k - 1, by omega⟩
    rw [fullerref09_Read.l0, if_neg (by omega)]
    simp [ird]
  | succ n ih =>
    intro k acc r ho hr hk ha
    obtain ⟨k, rfl⟩ : ∃ q, k = q + 1 := ⟨k - 1, by omega⟩
    rw [fullerref09_Read.l0, ird]
    by_cases h0 : r = []
    · subst h0
      rw [if_neg (by simp), if_pos rfl]
      simp
    · have hp := List.length_pos_iff.mpr h0
      rw [if_pos (by omega), if_neg h0, ritake_f r ho (by omega) k (by omega)]
      simp only [Option.bind_some]
      by_cases he : (itake r).2.2.2 = 0
      · have hl := itake_less ho he
        rw [if_pos he, if_pos he, if_pos (by omega), ih k _ _ (itake_inv ho he).2.2.1 (by omega) (by omega) (by simp only [List.length_append, List.length_singleton]; omega)]
        by_cases h2 : (ird n (itake r).2.2.1).2 = 0
        · simp [h2]
        · simp [h2]
      · rw [if_neg he, if_neg he, itake_err he]
        simp
theorem ird_err {b : List Int} {n : Nat} (h : ¬ (ird n b).2 = 0) : (ird n b).1 = [] := by
  cases n with
  | zero => simp [ird]
  | succ n =>
    rw [ird] at h ⊢
    by_cases h0 : b = []
    · simp [h0]
    · rw [if_neg h0] at h ⊢
      by_cases he : (itake b).2.2.2 = 0
      · rw [if_pos he] at h ⊢
        by_cases h2 : (ird n (itake b).2.2.1).2 = 0
        · rw [if_pos h2] at h; exact absurd rfl h
        · rw [if_neg h2]
      · rw [if_neg he]
theorem riread_f (b : List Int) (ho : octs b) (hl : b.length ≤ 100000000000) (k : Nat) (hk : b.length + 500 ≤ k) : fullerref09_Read.f k b = some (ird b.length b) := by
  unfold fullerref09_Read.f
  rw [rird_l0 b.length k [] b ho (by omega) (by omega) (by simp; omega)]
  by_cases h : (ird b.length b).2 = 0
  · rw [if_pos h, List.nil_append, ← h]
  · rw [if_neg h, ← ird_err h]
end Go.Proofs.Ytfoffgbhfokccaa.Plain
