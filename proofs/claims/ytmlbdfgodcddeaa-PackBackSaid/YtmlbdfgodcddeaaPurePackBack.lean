/- For all numbers, lists, sizes and bytes PackBack answers true; no conditions but the sizes that the statement names. -/
import Derived.Test.YtmlbdfgodcddeaaAx12
import Derived.Test.YtmlbdfgodcddeaaPackA
import Derived.Test.YtmlbdfgodcddeaaPackAwake
namespace Go.Proofs.Ytmlbdfgodcddeaa.Pure
open Go.RowKit Go.Proofs.Ytmlbdfgodcddeaa.Plain Go.Proofs.Ytmlbdfgodcddeaa.A Go.Proofs.YtmlbdfgodcddeaaW.PrintWords Go.Proofs.YtmlbdfgodcddeaaW.PrintLast Go.Proofs.YtmlbdfgodcddeaaW.PrintMore
set_option linter.unusedVariables false
set_option linter.unusedSimpArgs false
theorem same_l0 (l : List Int) (hl : l.length ≤ 300) : ∀ (d i k : Nat), l.length - i = d → i ≤ l.length → d < k → fullerref02_Same.l0 k l l (i : Int) = some true := by
  intro d
  induction d with
  | zero =>
    intro i k hd hi hk
    obtain ⟨k, rfl⟩ : ∃ q, k = q + 1 := ⟨k - 1, by omega⟩
    unfold fullerref02_Same.l0
    rw [if_neg (by omega)]
  | succ d ih =>
    intro i k hd hi hk
    obtain ⟨k, rfl⟩ : ∃ q, k = q + 1 := ⟨k - 1, by omega⟩
    have hw : wrap64 ((i : Int) + 1) = ((i + 1 : Nat) : Int) := w64 (by omega) (by omega)
    unfold fullerref02_Same.l0
    rw [if_pos (by omega), if_pos (by omega), if_pos (by omega), if_pos rfl, hw]
    exact ih (i + 1) k (by omega) (by omega) (by omega)
theorem same_self (l : List Int) (hl : l.length ≤ 300) (k : Nat) (hk : 301 < k) : fullerref02_Same.f k l l = some true := by
  unfold fullerref02_Same.f
  rw [if_pos rfl]
  exact same_l0 l hl l.length 0 k (by omega) (by omega) (by omega)
theorem lor_step (x c : Int) (hc : 0 ≤ c) (hc' : c < 256) : Go.bits .or .i64 (wrap64 (x * 256)) (wrap64 c) = wrap64 (x * 256 + c) := or_step x c hc hc'
theorem evb_one (a : Int) : evb 0 [a] = a := by simp [evb]
theorem bytes_of_ev (m : Nat) : ∀ l : List Int, octs l → l.length = m → ∀ x : Int, pkBytes m (evb x l) = l := by
  induction m with
  | zero => intro l _ hl x; cases l with | nil => rfl | cons a r => simp at hl
  | succ m ih =>
    intro l ho hl x
    cases l with
    | nil => simp at hl
    | cons a r =>
      have ha := ho a (by simp)
      have hr : octs r := fun y hy => ho y (by simp [hy])
      have hlr : r.length = m := by simpa using hl
      have he : ∀ z : Int, evb z r = z * 2 ^ (8 * m) + evb 0 r ∧ 0 ≤ evb 0 r ∧ evb 0 r < 2 ^ (8 * m) := by
        clear ih ha hl ho
        intro z
        have key : ∀ (r : List Int) (m : Nat) (z : Int), octs r → r.length = m → evb z r = z * 2 ^ (8 * m) + evb 0 r ∧ 0 ≤ evb 0 r ∧ evb 0 r < 2 ^ (8 * m) := by
          intro r
          induction r with
          | nil => intro m z _ h; subst h; simp [evb]
          | cons b t iht =>
            intro m z hb h
            subst h
            have hb0 := hb b (by simp)
            have ht : octs t := fun y hy => hb y (by simp [hy])
            have e1 := iht t.length (z * 256 + b) ht rfl
            have e2 := iht t.length (0 * 256 + b) ht rfl
            have eP : (2 : Int) ^ (8 * (t.length + 1)) = 2 ^ (8 * t.length) * 256 := by rw [Nat.mul_add, Int.pow_add]; rfl
            have hP : (0 : Int) < 2 ^ (8 * t.length) := Int.pow_pos (by omega)
            rw [List.length_cons, evb, evb, eP, e1.1, e2.1]
            generalize (2 : Int) ^ (8 * t.length) = P at *
            have m1 : b * P ≤ 255 * P := Int.mul_le_mul_of_nonneg_right (by omega) (by omega)
            have m0 : 0 ≤ b * P := Int.mul_nonneg (by omega) (by omega)
            have e3 : (0 * 256 + b) * P = b * P := by rw [Int.zero_mul, Int.zero_add]
            have e4 : (z * 256 + b) * P = z * (P * 256) + b * P := by rw [Int.add_mul, Int.mul_assoc, Int.mul_comm 256 P]
            rw [e3, e4]
            refine ⟨by omega, by omega, by omega⟩
        exact key r m z hr hlr
      obtain ⟨h1, h2, h3⟩ := he (x * 256 + a)
      have hP : (0 : Int) < 2 ^ (8 * m) := Int.pow_pos (by omega)
      rw [evb, pkBytes, ih r hr hlr (x * 256 + a), h1]
      congr 1
      rw [Int.add_comm, Int.add_mul_ediv_right _ _ (by omega), Int.ediv_eq_zero_of_lt h2 h3]
      omega
theorem wrap_bytes (m : Nat) (hm : m ≤ 8) (n : Int) : pkBytes m (wrap64 n) = pkBytes m n := by
  have key : ∀ j : Nat, j < 8 → (wrap64 n / 2 ^ (8 * j)) % 256 = (n / 2 ^ (8 * j)) % 256 := by
    intro j hj
    have h8 : j = 0 ∨ j = 1 ∨ j = 2 ∨ j = 3 ∨ j = 4 ∨ j = 5 ∨ j = 6 ∨ j = 7 := by omega
    unfold wrap64
    rcases h8 with rfl | rfl | rfl | rfl | rfl | rfl | rfl | rfl
    · show (_ / (1 : Int)) % 256 = (n / 1) % 256
      omega
    · show (_ / (256 : Int)) % 256 = (n / 256) % 256
      omega
    · show (_ / (65536 : Int)) % 256 = (n / 65536) % 256
      omega
    · show (_ / (16777216 : Int)) % 256 = (n / 16777216) % 256
      omega
    · show (_ / (4294967296 : Int)) % 256 = (n / 4294967296) % 256
      omega
    · show (_ / (1099511627776 : Int)) % 256 = (n / 1099511627776) % 256
      omega
    · show (_ / (281474976710656 : Int)) % 256 = (n / 281474976710656) % 256
      omega
    · show (_ / (72057594037927936 : Int)) % 256 = (n / 72057594037927936) % 256
      omega
  induction m with
  | zero => rfl
  | succ m ih => rw [pkBytes, pkBytes, ih (by omega), key m (by omega)]
theorem back_bytes (l : List Int) (ho : octs l) (hl : l.length ≤ 8) : pkBytes l.length (tkl 0 l) = l := by
  rw [tkl_zero _ ho, wrap_bytes _ hl, bytes_of_ev l.length l ho rfl 0]
theorem ev_bound (l : List Int) (ho : octs l) (hl : l.length = 1 ∨ l.length = 2) : 0 ≤ tkl 0 l ∧ tkl 0 l < 256 ^ l.length := by
  rw [tkl_zero _ ho]
  rcases hl with h | h
  · match l, h with
    | [a], _ =>
      have ha := ho a (by simp)
      simp only [evb, List.length_cons, List.length_nil]
      rw [w64 (by omega) (by omega)]
      refine ⟨by omega, ?_⟩
      show _ < (256 : Int)
      omega
  · match l, h with
    | [a, b], _ =>
      have ha := ho a (by simp)
      have hb := ho b (by simp)
      simp only [evb, List.length_cons, List.length_nil]
      rw [w64 (by omega) (by omega)]
      refine ⟨by omega, ?_⟩
      show _ < (65536 : Int)
      omega
theorem may_take (l : List Int) (ho : octs l) (size : Int) (hs : okSize size = true) (hl : l.length = size.toNat) : pkMay (tkl 0 l) size = true := by
  rcases okSize_cases hs with rfl | rfl | rfl
  · have h := ev_bound l ho (.inl hl)
    rw [hl] at h
    have h2 : tkl 0 l < 256 := h.2
    simp [pkMay]; omega
  · have h := ev_bound l ho (.inr hl)
    rw [hl] at h
    have h2 : tkl 0 l < 65536 := h.2
    simp [pkMay]; omega
  · simp [pkMay]
/-- What was taken are the bytes that were there. -/
theorem tl_back (size : Int) (hs : okSize size = true) (m : Nat) : ∀ (r : List Int) (xs rest : List Int), octs r → pkTL size m r = some (xs, rest) → xs.length = m ∧ pkAll size xs ++ rest = r ∧ xs.all (fun n => pkMay n size) = true := by
  have hp := ok_pos hs
  induction m with
  | zero =>
    intro r xs rest ho h
    simp only [pkTL, Option.some.injEq, Prod.mk.injEq] at h
    obtain ⟨rfl, rfl⟩ := h
    simp [pkAll]
  | succ m ih =>
    intro r xs rest ho h
    rw [pkTL] at h
    split at h
    · rename_i hle
      cases hq : pkTL size m (r.drop size.toNat) with
      | none => rw [hq] at h; cases h
      | some q =>
        obtain ⟨ys, t⟩ := q
        rw [hq] at h
        simp only [Option.map_some, Option.some.injEq, Prod.mk.injEq] at h
        obtain ⟨rfl, rfl⟩ := h
        have ho1 : octs (r.take size.toNat) := fun y hy => ho y (List.mem_of_mem_take hy)
        have ho2 : octs (r.drop size.toNat) := fun y hy => ho y (List.mem_of_mem_drop hy)
        obtain ⟨a, b, c⟩ := ih _ _ _ ho2 hq
        have hl : (r.take size.toNat).length = size.toNat := by rw [List.length_take]; omega
        have hb : pkBytes size.toNat (tkl 0 (r.take size.toNat)) = r.take size.toNat := by
          have := back_bytes (r.take size.toNat) ho1 (by omega)
          rwa [hl] at this
        refine ⟨by simp [a], ?_, ?_⟩
        · rw [pkAll, hb, List.append_assoc, b, List.take_append_drop]
        · rw [List.all_cons, c, may_take _ ho1 size hs hl]; rfl
    · cases h
theorem tkl_one (a : Int) (h1 : 0 ≤ a) (h2 : a < 256) : tkl 0 [a] = a := by
  rw [tkl_zero _ (by intro x hx; simp at hx; omega)]
  simp only [evb]
  exact (w64 (by omega) (by omega)).trans (by omega)
theorem take_list_cases (b : List Int) (ho : octs b) (hl : b.length ≤ 3000) (size : Int) : pkTakeList b size = ([], [], 40) ∨ ∃ xs rest, pkTakeList b size = (xs, rest, 0) ∧ pkListOk xs size = true ∧ ((xs.length : Int) :: pkAll size xs) ++ rest = b := by
  unfold pkTakeList
  split
  · rename_i h
    obtain ⟨hs, h1⟩ := h
    cases b with
    | nil => simp at h1
    | cons a r =>
      have ha := ho a (by simp)
      have e1 : (a :: r).take 1 = [a] := rfl
      have e2 : (a :: r).drop 1 = r := rfl
      rw [e1, e2, tkl_one a ha.1 ha.2]
      cases hq : pkTL size a.toNat r with
      | none => exact .inl rfl
      | some p =>
        obtain ⟨xs, rest⟩ := p
        obtain ⟨x, y, z⟩ := tl_back size hs a.toNat r xs rest (fun y hy => ho y (by simp [hy])) hq
        refine .inr ⟨xs, rest, rfl, ?_, ?_⟩
        · unfold pkListOk
          rw [hs, z]
          simp; omega
        · rw [List.cons_append, y, x, Int.toNat_of_nonneg ha.1]
  · exact .inl rfl
theorem PackBack : fullerlaw08_PackBack.Pure := by
  intro n l size bh hn _ _ hx _ _ _ hb8
  refine ⟨2000, ?_⟩
  unfold fullerlaw08_PackBack.f
  rw [awake_f 2000 (by omega)]
  simp only [Option.bind_some]
  by_cases h1 : (bh.length : Int) > 3000
  · rw [if_pos h1]; simp [fullerlaw08_PackBack.j0]
  · rw [if_neg h1]
    by_cases h2 : (l.length : Int) > 300
    · simp [fullerlaw08_PackBack.j0, h2]
    · simp only [h2, decide_false]
      simp only [fullerlaw08_PackBack.j0, Bool.false_eq_true, if_false]
      have hx' : ∀ n ∈ l, -9223372036854775808 ≤ n ∧ n ≤ 9223372036854775807 := fun n hn => by
        have := hx n hn
        simp [Lit.wf, IntKind.min, IntKind.max, IntKind.signed, IntKind.bits] at this
        omega
      have hn' : -9223372036854775808 ≤ n ∧ n ≤ 9223372036854775807 := by
        simp [Lit.wf, IntKind.min, IntKind.max, IntKind.signed, IntKind.bits] at hn
        omega
      have ho : octs bh := fun x hx => by
        have := hb8 x hx
        simp [Lit.wf, IntKind.min, IntKind.max, IntKind.signed, IntKind.bits] at this
        omega
      have hbl : bh.length ≤ 3000 := by omega
      have hll : l.length ≤ 300 := by omega
      clear hx hn hb8 h1 h2
      have hput : pack_Put.f ([] : List Int) n size = some (pkPut [] n size) := by unfold pack_Put.f; rw [if_pos (by simp)]
      have hlist : ∀ q : List Int, q.length ≤ 300 → pack_List.f ([] : List Int) q size = some (pkList [] q size) := fun q hq => by unfold pack_List.f; rw [if_pos (by simp; omega)]
      have lp : (pkPut [] n size).1.length ≤ 8 := by
        unfold pkPut
        split
        · rename_i h; have := ok_pos (may_ok h); simp [pkBytes_length]; omega
        · simp
      have ll : (pkList [] l size).1.length ≤ 8 * 300 + 1 := by
        unfold pkList
        split
        · rename_i h
          unfold pkListOk at h
          simp only [Bool.and_eq_true, decide_eq_true_eq] at h
          have := ok_pos h.1.1
          have hm : size.toNat * l.length ≤ 8 * 300 := Nat.mul_le_mul (by omega) hll
          simp [pkAll_length]; omega
        · simp
      have htl : ∀ q : List Int, octs (q ++ bh) → (q ++ bh).length ≤ 6000 → pack_TakeList.f (q ++ bh) size = some (pkTakeList (q ++ bh) size) := fun q hq hlq => by
        unfold pack_TakeList.f
        rw [if_pos (by omega)]
        have : 0 ≤ tkl 0 ((q ++ bh).take 1) ∧ tkl 0 ((q ++ bh).take 1) ≤ 255 := by
          clear hlq
          generalize q ++ bh = z at hq ⊢
          cases z with
          | nil => simp [tkl]
          | cons a r =>
            have h := ev_bound [a] (fun y hy => hq y (by simp at hy; simp [hy])) (.inl rfl)
            have h2 : tkl 0 [a] < 256 := h.2
            have e : (a :: r).take 1 = [a] := rfl
            rw [e]
            omega
        rw [if_pos this]
      have hol : octs (pkList [] l size).1 := by
        unfold pkList
        split
        · rename_i h
          unfold pkListOk at h
          simp only [Bool.and_eq_true, decide_eq_true_eq] at h
          intro y hy
          simp only [List.nil_append, List.mem_cons] at hy
          rcases hy with rfl | hy
          · omega
          · exact octs_all _ _ y hy
        · intro y hy; simp at hy
      have htk : pack_Take.f ((pkPut [] n size).1 ++ bh) size = some (pkTake ((pkPut [] n size).1 ++ bh) size) := by unfold pack_Take.f; rw [if_pos (by rw [List.length_append]; omega)]
      have hT1 := htl (pkList [] l size).1 (octs_append hol ho) (by rw [List.length_append]; omega)
      have hT2 := htl [] ho (by simp; omega)
      rw [List.nil_append] at hT2
      have hC := take_list_cases bh ho (by omega) size
      have hq : (pkTakeList bh size).1.length ≤ 300 := by
        rcases hC with h | ⟨xs, rest, h, hok, hb⟩
        · rw [h]; simp
        · rw [h]
          unfold pkListOk at hok
          simp only [Bool.and_eq_true, decide_eq_true_eq] at hok
          show xs.length ≤ 300
          omega
      have hE : (pkPut [] n size).2 = 0 → pkTake ((pkPut [] n size).1 ++ bh) size = (n, bh, 0) := by
        intro h
        by_cases hp : pkMay n size = true
        · unfold pkPut; rw [if_pos hp, List.nil_append]; exact take_one n size bh hp hn'.1 hn'.2
        · unfold pkPut at h; rw [if_neg hp] at h; cases h
      have hG : (pkList [] l size).2 = 0 → pkTakeList ((pkList [] l size).1 ++ bh) size = (l, bh, 0) := by
        intro h
        by_cases hp : pkListOk l size = true
        · have hok := hp
          unfold pkListOk at hok
          simp only [Bool.and_eq_true, decide_eq_true_eq] at hok
          unfold pkList; rw [if_pos hp, List.nil_append]
          have e1 : ((l.length : Int) :: pkAll size l ++ bh).take 1 = [(l.length : Int)] := rfl
          have e2 : ((l.length : Int) :: pkAll size l ++ bh).drop 1 = pkAll size l ++ bh := rfl
          have et : tkl 0 [(l.length : Int)] = (l.length : Int) := tkl_one _ (by omega) (by omega)
          show pkTakeList ((l.length : Int) :: pkAll size l ++ bh) size = (l, bh, 0)
          unfold pkTakeList
          rw [if_pos ⟨hok.1.1, by simp⟩, e1, e2, et, Int.toNat_natCast, tl_all size bh l (fun x hx => ⟨List.all_eq_true.mp hok.2 x hx, hx' x hx⟩)]
        · unfold pkList at h; rw [if_neg hp] at h; cases h
      have hI : (if (pkTakeList bh size).2.2 = 0 then (if (pkList [] (pkTakeList bh size).1 size).2 = 0 then (if (strOfNums (pkList [] (pkTakeList bh size).1 size).1).size + (strOfNums (pkTakeList bh size).2.1).size ≤ 9223372036854775807 then (some (((strOfNums (pkList [] (pkTakeList bh size).1 size).1) ++ (strOfNums (pkTakeList bh size).2.1)).toList == (strOfNums bh).toList)) else (none)) else (none)) else (some true)) = some true := by
        rcases hC with h | ⟨xs, rest, h, hok, hb⟩
        · rw [h]; simp
        · rw [h]
          simp only [if_true]
          unfold pkList
          rw [if_pos hok]
          simp only [if_true, List.nil_append]
          have hlen : ((xs.length : Int) :: pkAll size xs).length + rest.length ≤ 3000 := by rw [← List.length_append, hb]; exact hbl
          rw [if_pos (by rw [strOfNums_size, strOfNums_size]; omega), ← str_append, hb, beq_self_eq_true]
      rw [hput]
      simp only [Option.bind_some, List.nil_append, List.length_nil, Nat.zero_add]
      rw [if_pos (by omega), if_pos (by omega), htk]
      simp only [Option.bind_some]
      rw [hlist l hll]
      simp only [Option.bind_some, List.nil_append, List.length_nil, Nat.zero_add]
      rw [if_pos (by omega), if_pos (by omega), hT1]
      simp only [Option.bind_some]
      rw [hT2]
      simp only [Option.bind_some]
      rw [hlist _ hq]
      simp only [Option.bind_some]
      by_cases e : (pkPut [] n size).2 = 0
      · rw [if_pos e, hE e]
        simp only [if_true]
        by_cases g : (pkList [] l size).2 = 0
        · rw [if_pos g, hG g]
          simp only [if_true]
          rw [same_self l hll 1999 (by omega)]
          simp only [Option.bind_some, if_true]
          exact hI
        · rw [if_neg g]
          exact hI
      · rw [if_neg e]
        by_cases g : (pkList [] l size).2 = 0
        · rw [if_pos g, hG g]
          simp only [if_true]
          rw [same_self l hll 1999 (by omega)]
          simp only [Option.bind_some, if_true]
          exact hI
        · rw [if_neg g]
          exact hI
end Go.Proofs.Ytmlbdfgodcddeaa.Pure
