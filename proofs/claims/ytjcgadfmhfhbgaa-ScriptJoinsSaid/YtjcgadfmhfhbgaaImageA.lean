/- Tensors as bytes, in plain words; no conditions. -/
import Derived.Test.YtjcgadfmhfhbgaaPackA
import Derived.Test.YtjcgadfmhfhbgaaAx6
import Derived.Test.YtjcgadfmhfhbgaaAx9
namespace Go.Proofs.Ytjcgadfmhfhbgaa.Plain
open Go.RowKit Go.Proofs.Ytjcgadfmhfhbgaa.A Go.Proofs.YtjcgadfmhfhbgaaW.PrintWords Go.Proofs.YtjcgadfmhfhbgaaW.PrintLast Go.Proofs.YtjcgadfmhfhbgaaW.PrintMore
set_option linter.unusedVariables false
set_option linter.unusedSimpArgs false
theorem dropT {α : Type} {l : List α} {i : Nat} (h : i < l.length) : l.drop i = l[i] :: l.drop (i + 1) := List.drop_eq_getElem_cons h
def encT (s d : List Int) : List Int := (s.length : Int) :: (pkAll 1 s ++ pkAll 8 d)
def iput (b s d : List Int) : List Int × Int := if tchk s d = true then (b ++ encT s d, 0) else ([], 30)
theorem all_length (size : Int) : ∀ l : List Int, (pkAll size l).length = size.toNat * l.length
  | [] => by simp [pkAll]
  | n :: l => by simp only [pkAll, List.length_append, pkBytes_length, all_length size l, List.length_cons, Nat.mul_add, Nat.mul_one]; omega
theorem all_append (size : Int) : ∀ l m : List Int, pkAll size (l ++ m) = pkAll size l ++ pkAll size m
  | [], m => rfl
  | n :: l, m => by simp only [List.cons_append, pkAll, all_append size l m, List.append_assoc]
theorem encT_length (s d : List Int) : (encT s d).length = 1 + s.length + 8 * d.length := by
  simp only [encT, List.length_cons, List.length_append, all_length]
  have e1 : (1 : Int).toNat = 1 := rfl
  have e8 : (8 : Int).toNat = 8 := rfl
  rw [e1, e8]
  omega
theorem side_may {s : List Int} (h : ∀ x ∈ s, 1 ≤ x ∧ x ≤ 16) : ∀ n ∈ s, pkMay n 1 = true := fun n hn => by
  have := h n hn
  simp [pkMay]
  omega
theorem list_ok {s : List Int} (h : chk s = true) : pkListOk s 1 = true := by
  obtain ⟨h1, h2, _⟩ := chk_iff.mp h
  simp only [pkListOk, Bool.and_eq_true, decide_eq_true_eq, List.all_eq_true]
  exact ⟨⟨rfl, by omega⟩, side_may h2⟩
theorem put8 (b : List Int) (n : Int) (h : b.length + 8 < 140737488355328) : pack_Put.f b n 8 = some (b ++ pkBytes 8 n, 0) := by
  unfold pack_Put.f
  rw [if_pos h]
  have : pkMay n 8 = true := by simp [pkMay]
  simp [pkPut, this]
theorem iput_l0 (d : List Int) (e : Nat) : ∀ (k i : Nat) (x : List Int), d.length - i = e → i ≤ d.length → e + 1 ≤ k → d.length ≤ 1000000 → x.length + 8 * d.length + 100 < 140737488355328 + 8 * i →
    image_Put.l0 k x d (d.length : Int) (i : Int) = some (x ++ pkAll 8 (d.drop i), 0) := by
  induction e with
  | zero =>
    intro k i x hd hi hk hdl hx
    obtain ⟨k, rfl⟩ : ∃ q, k = q + 1 := ⟨k - 1, by omega⟩
    rw [image_Put.l0, if_neg (by omega), List.drop_eq_nil_of_le (by omega), pkAll, List.append_nil]
  | succ e ih =>
    intro k i x hd hi hk hdl hx
    obtain ⟨k, rfl⟩ : ∃ q, k = q + 1 := ⟨k - 1, by omega⟩
    have hlt : i < d.length := by omega
    have hw : wrap64 ((i : Int) + 1) = ((i + 1 : Nat) : Int) := by rw [w64 (by omega) (by omega)]; omega
    rw [image_Put.l0, if_pos (by omega), if_pos (by omega), if_pos (by omega), rd_lt hlt, put8 _ _ (by omega)]
    simp only [Option.bind_some]
    rw [hw, ih k (i + 1) _ (by omega) (by omega) (by omega) hdl (by simp only [List.length_append, pkBytes_length]; omega), dropT hlt, pkAll, List.append_assoc]
    rfl
theorem iput_f (b s d : List Int) (hb : b.length ≤ 1000000000000) (k : Nat) (hk : 100 ≤ k) : image_Put.f k b s d = some (iput b s d) := by
  unfold image_Put.f iput
  rw [tcheck_f s d k (by omega)]
  simp only [Option.bind_some]
  cases ht : tchk s d with
  | false => simp
  | true =>
    have hl := tchk_len ht
    have hc : chk s = true := by simp only [tchk, Bool.and_eq_true] at ht; exact ht.1
    rw [if_pos rfl, if_pos rfl]
    have h1 : pack_List.f b s 1 = some (b ++ ((s.length : Int) :: pkAll 1 s), 0) := by
      unfold pack_List.f pkList
      rw [if_pos (by omega), if_pos (list_ok hc)]
    rw [h1]
    simp only [Option.bind_some]
    have h2 := iput_l0 d d.length k 0 (b ++ ((s.length : Int) :: pkAll 1 s)) (by omega) (by omega) (by omega) (by omega) (by simp only [List.length_append, List.length_cons, all_length]; rw [show (1 : Int).toNat = 1 from rfl]; omega)
    simp only [Int.natCast_zero, List.drop_zero] at h2
    rw [h2]
    simp [encT]
def itake (b : List Int) : List Int × List Int × List Int × Int :=
  if (pkTakeList b 1).2.2 = 0 ∧ chk (pkTakeList b 1).1 = true then
    (match pkTL 8 (siz (pkTakeList b 1).1).toNat (pkTakeList b 1).2.1 with | some p => ((pkTakeList b 1).1, p.1, p.2, 0) | none => ([], [], [], 50))
  else ([], [], [], 50)
theorem tl_some (m : Nat) : ∀ r : List Int, 8 * m ≤ r.length → ∃ p, pkTL 8 m r = some p ∧ p.1.length = m := by
  induction m with
  | zero => intro r _; exact ⟨([], r), rfl, rfl⟩
  | succ m ih =>
    intro r h
    obtain ⟨p, hp, hl⟩ := ih (r.drop (8 : Int).toNat) (by simp only [List.length_drop]; omega)
    rw [pkTL, if_pos (by omega), hp]
    exact ⟨_, rfl, by simp [hl]⟩
theorem itake_l0 (s : List Int) (n : Nat) (hn : n ≤ 64) (e : Nat) : ∀ (k i : Nat) (r d : List Int) (p : List Int × List Int), n - i = e → i ≤ n → e + 1 ≤ k → d.length = n → r.length < 140737488355328 → pkTL 8 e r = some p →
    image_Take.l0 k r (n : Int) (i : Int) s d = some (s, d.take i ++ p.1, p.2, 0) := by
  induction e with
  | zero =>
    intro k i r d p hd hi hk hdl hr hp
    obtain ⟨k, rfl⟩ : ∃ q, k = q + 1 := ⟨k - 1, by omega⟩
    simp only [pkTL, Option.some.injEq] at hp
    subst hp
    rw [image_Take.l0, if_neg (by omega), List.take_of_length_le (by omega), List.append_nil]
  | succ e ih =>
    intro k i r d p hd hi hk hdl hr hp
    obtain ⟨k, rfl⟩ : ∃ q, k = q + 1 := ⟨k - 1, by omega⟩
    have hw : wrap64 ((i : Int) + 1) = ((i + 1 : Nat) : Int) := by rw [w64 (by omega) (by omega)]; omega
    rw [pkTL] at hp
    by_cases h8 : (8 : Int) ≤ (r.length : Int)
    · rw [if_pos h8] at hp
      cases hq : pkTL 8 e (r.drop (8 : Int).toNat) with
      | none => rw [hq] at hp; cases hp
      | some q =>
        rw [hq] at hp
        simp only [Option.map_some, Option.some.injEq] at hp
        subst hp
        have ht : pack_Take.f r 8 = some (tkl 0 (r.take (8 : Int).toNat), r.drop (8 : Int).toNat, 0) := by
          unfold pack_Take.f pkTake
          rw [if_pos hr, if_pos ⟨rfl, h8⟩]
        rw [image_Take.l0, if_pos (by omega), ht]
        simp only [Option.bind_some]
        rw [if_pos (by omega), if_pos (by omega), hw, ih k (i + 1) _ _ q (by omega) (by omega) (by omega) (by simp [hdl]) (by simp only [List.length_drop]; omega) hq]
        have e1 : (d.set (i : Int).toNat (tkl 0 (r.take (8 : Int).toNat))).take (i + 1) = d.take i ++ [tkl 0 (r.take (8 : Int).toNat)] := by
          rw [Int.toNat_natCast, List.take_succ_eq_append_getElem (by simp; omega), List.getElem_set_self, List.take_set_of_le (Nat.le_refl _)]
        rw [e1]
        simp
    · rw [if_neg h8] at hp; cases hp
theorem many_ok {b : List Int} (h : octs b) : 0 ≤ tkl 0 (b.take 1) ∧ tkl 0 (b.take 1) ≤ 255 := by
  cases b with
  | nil => exact ⟨by decide, by decide⟩
  | cons c r =>
    have hc := h c List.mem_cons_self
    have ho : octs [c] := fun x hx => by obtain rfl := List.mem_singleton.1 hx; exact hc
    rw [show (c :: r).take 1 = [c] from rfl, tkl_zero _ ho]
    simp only [evb]
    rw [w64 (by omega) (by omega)]
    omega
theorem tkl_head {c : Int} {r : List Int} (hc : 0 ≤ c ∧ c < 256) : tkl 0 ((c :: r).take 1) = c := by
  have ho : octs [c] := fun x hx => by obtain rfl := List.mem_singleton.1 hx; exact hc
  rw [show (c :: r).take 1 = [c] from rfl, tkl_zero _ ho]
  simp only [evb]
  rw [w64 (by omega) (by omega)]
  omega
theorem siz_ok {s : List Int} : 0 ≤ siz s ∧ siz s ≤ 64 := ⟨siz_nonneg s, siz_le s⟩
theorem tl_len (size : Int) (m : Nat) : ∀ (r : List Int) (p : List Int × List Int), pkTL size m r = some p → p.2.length ≤ r.length ∧ p.1.length = m := by
  induction m with
  | zero => intro r p h; simp only [pkTL, Option.some.injEq] at h; subst h; exact ⟨Nat.le_refl _, rfl⟩
  | succ m ih =>
    intro r p h
    rw [pkTL] at h
    split at h
    · cases hq : pkTL size m (r.drop size.toNat) with
      | none => rw [hq] at h; cases h
      | some q =>
        rw [hq] at h
        simp only [Option.map_some, Option.some.injEq] at h
        subst h
        have := ih _ q hq
        simp only [List.length_drop] at this
        exact ⟨by simp only; omega, by simp [this.2]⟩
    · cases h
theorem tlist_len (b : List Int) : (pkTakeList b 1).2.1.length ≤ b.length := by
  unfold pkTakeList
  split
  · cases h : pkTL 1 (tkl 0 (b.take 1)).toNat (b.drop 1) with
    | none => simp
    | some p =>
      have := tl_len 1 _ _ p h
      simp only [List.length_drop] at this
      simp only
      omega
  · simp
theorem itake_f (b : List Int) (hb : octs b) (hl : b.length ≤ 1000000000000) (k : Nat) (hk : 100 ≤ k) : image_Take.f k b = some (itake b) := by
  unfold image_Take.f itake
  have ht : pack_TakeList.f b 1 = some (pkTakeList b 1) := by
    unfold pack_TakeList.f
    rw [if_pos (by omega), if_pos (many_ok hb)]
  rw [ht]
  simp only [Option.bind_some]
  have hr := tlist_len b
  have bad : ∀ (s r : List Int), image_Take.j0 k s r true = some ([], [], [], 50) := by
    intro s r
    obtain ⟨k, rfl⟩ : ∃ q, k = q + 1 := ⟨k - 1, by omega⟩
    rw [image_Take.j0, if_pos rfl]
  generalize (pkTakeList b 1).1 = s at hr ⊢
  generalize (pkTakeList b 1).2.1 = r at hr ⊢
  by_cases h0 : (pkTakeList b 1).2.2 = 0
  · rw [if_pos h0, check_f s k (by omega)]
    simp only [Option.bind_some]
    cases hc : chk s with
    | false => rw [if_neg (by simp), bad, if_neg (by simp)]
    | true =>
      have hs := siz_ok (s := s)
      have hw : wrap64 (8 * siz s) = 8 * siz s := w64 (by omega) (by omega)
      rw [if_pos rfl, if_pos ⟨h0, rfl⟩, size_f s k (by omega)]
      simp only [Option.bind_some]
      rw [hw]
      obtain ⟨n, hn⟩ : ∃ n : Nat, siz s = (n : Int) := ⟨(siz s).toNat, by omega⟩
      by_cases hlt : (r.length : Int) < 8 * siz s
      · rw [decide_eq_true hlt, bad, tl_short 8 (by omega) _ r (by omega)]
      · rw [decide_eq_false hlt, hn, Int.toNat_natCast]
        obtain ⟨p, hp, hpl⟩ := tl_some n r (by omega)
        obtain ⟨k, rfl⟩ : ∃ q, k = q + 1 := ⟨k - 1, by omega⟩
        rw [image_Take.j0, if_neg (by simp), size_f s k (by omega), hn]
        simp only [Option.bind_some, Int.toNat_natCast]
        rw [if_pos (by omega), if_pos (by omega), hp]
        simp only [List.length_replicate]
        have := itake_l0 s n (by omega) n k 0 r (List.replicate n 0) p (by omega) (by omega) (by omega) (by simp) (by omega) hp
        simp only [Int.natCast_zero, List.take_zero, List.nil_append] at this
        rw [this]
  · rw [if_neg h0, bad, if_neg (fun h => h0 h.1)]
theorem itake_cases (b : List Int) : itake b = ([], [], [], 50) ∨ ((itake b).2.2.2 = 0 ∧ chk (itake b).1 = true ∧ (pkTakeList b 1).2.2 = 0 ∧ (itake b).1 = (pkTakeList b 1).1 ∧ pkTL 8 (siz (itake b).1).toNat (pkTakeList b 1).2.1 = some ((itake b).2.1, (itake b).2.2.1)) := by
  unfold itake
  by_cases h : (pkTakeList b 1).2.2 = 0 ∧ chk (pkTakeList b 1).1 = true
  · rw [if_pos h]
    cases hp : pkTL 8 (siz (pkTakeList b 1).1).toNat (pkTakeList b 1).2.1 with
    | none => exact .inl rfl
    | some p => exact .inr ⟨rfl, h.2, h.1, rfl, hp⟩
  · rw [if_neg h]; exact .inl rfl
theorem back1 {c : Int} (h : 0 ≤ c ∧ c < 256) : pkBytes 1 (tkl 0 [c]) = [c] := by
  have ho : octs [c] := fun x hx => by obtain rfl := List.mem_singleton.1 hx; exact h
  rw [tkl_zero _ ho]
  simp only [evb, pkBytes, Nat.mul_zero]
  rw [w64 (by omega) (by omega)]
  have : (0 * 256 + c) / 2 ^ 0 % 256 = c := by
    rw [Int.pow_zero, Int.ediv_one]; omega
  rw [this]
theorem back8 {c : List Int} (hl : c.length = 8) (h : octs c) : pkBytes 8 (tkl 0 c) = c := by
  match c, hl with
  | [a0, a1, a2, a3, a4, a5, a6, a7], _ =>
    rw [tkl_zero _ h]
    have h0 := h a0 (by simp); have h1 := h a1 (by simp); have h2 := h a2 (by simp); have h3 := h a3 (by simp)
    have h4 := h a4 (by simp); have h5 := h a5 (by simp); have h6 := h a6 (by simp); have h7 := h a7 (by simp)
    clear h
    simp only [evb, pkBytes, Nat.reduceMul]
    obtain ⟨v, hv⟩ : ∃ v, v = ((((((((0 * 256 + a0) * 256 + a1) * 256 + a2) * 256 + a3) * 256 + a4) * 256 + a5) * 256 + a6) * 256 + a7) := ⟨_, rfl⟩
    rw [← hv]
    have hw : ∃ q : Int, wrap64 v = v + 18446744073709551616 * q := by
      unfold wrap64
      exact ⟨-((v + 9223372036854775808) / 18446744073709551616), by omega⟩
    obtain ⟨q, hq⟩ := hw
    rw [hq]
    have e7 : (2 : Int) ^ 56 = 72057594037927936 := by decide
    have e6 : (2 : Int) ^ 48 = 281474976710656 := by decide
    have e5 : (2 : Int) ^ 40 = 1099511627776 := by decide
    have e4 : (2 : Int) ^ 32 = 4294967296 := by decide
    have e3 : (2 : Int) ^ 24 = 16777216 := by decide
    have e2 : (2 : Int) ^ 16 = 65536 := by decide
    have e1 : (2 : Int) ^ 8 = 256 := by decide
    have e0 : (2 : Int) ^ 0 = 1 := by decide
    rw [e7, e6, e5, e4, e3, e2, e1, e0]
    clear hq e7 e6 e5 e4 e3 e2 e1 e0
    have c0 : (v + 18446744073709551616 * q) / 72057594037927936 % 256 = a0 := by omega
    have c1 : (v + 18446744073709551616 * q) / 281474976710656 % 256 = a1 := by omega
    have c2 : (v + 18446744073709551616 * q) / 1099511627776 % 256 = a2 := by omega
    have c3 : (v + 18446744073709551616 * q) / 4294967296 % 256 = a3 := by omega
    have c4 : (v + 18446744073709551616 * q) / 16777216 % 256 = a4 := by omega
    have c5 : (v + 18446744073709551616 * q) / 65536 % 256 = a5 := by omega
    have c6 : (v + 18446744073709551616 * q) / 256 % 256 = a6 := by omega
    have c7 : (v + 18446744073709551616 * q) / 1 % 256 = a7 := by omega
    rw [c0, c1, c2, c3, c4, c5, c6, c7]
theorem octs_take {l : List Int} (h : octs l) (n : Nat) : octs (l.take n) := fun x hx => h x (List.mem_of_mem_take hx)
theorem octs_drop {l : List Int} (h : octs l) (n : Nat) : octs (l.drop n) := fun x hx => h x (List.mem_of_mem_drop hx)
theorem tkl_range {c : List Int} (h : octs c) : -9223372036854775808 ≤ tkl 0 c ∧ tkl 0 c ≤ 9223372036854775807 := by
  rw [tkl_zero _ h]
  unfold wrap64
  omega
theorem tl_inv8 (m : Nat) : ∀ (r : List Int) (p : List Int × List Int), octs r → pkTL 8 m r = some p → r = pkAll 8 p.1 ++ p.2 ∧ octs p.2 ∧ ∀ n ∈ p.1, -9223372036854775808 ≤ n ∧ n ≤ 9223372036854775807 := by
  induction m with
  | zero => intro r p ho h; simp only [pkTL, Option.some.injEq] at h; subst h; exact ⟨rfl, ho, fun n hn => by cases hn⟩
  | succ m ih =>
    intro r p ho h
    rw [pkTL] at h
    split at h
    · rename_i h8
      cases hq : pkTL 8 m (r.drop (8 : Int).toNat) with
      | none => rw [hq] at h; cases h
      | some q =>
        rw [hq] at h
        simp only [Option.map_some, Option.some.injEq] at h
        subst h
        obtain ⟨h1, h2, h3⟩ := ih _ q (octs_drop ho _) hq
        have e8 : (8 : Int).toNat = 8 := rfl
        rw [e8] at h1 hq ⊢
        refine ⟨?_, h2, fun n hn => ?_⟩
        · simp only [pkAll, e8]
          rw [back8 (by simp only [List.length_take]; omega) (octs_take ho 8), List.append_assoc, ← h1, List.take_append_drop]
        · rcases List.mem_cons.1 hn with rfl | hn
          · exact tkl_range (octs_take ho 8)
          · exact h3 n hn
    · cases h
theorem tl_inv1 (m : Nat) : ∀ (r : List Int) (p : List Int × List Int), octs r → pkTL 1 m r = some p → r = pkAll 1 p.1 ++ p.2 ∧ octs p.2 := by
  induction m with
  | zero => intro r p ho h; simp only [pkTL, Option.some.injEq] at h; subst h; exact ⟨rfl, ho⟩
  | succ m ih =>
    intro r p ho h
    rw [pkTL] at h
    split at h
    · rename_i h8
      cases hq : pkTL 1 m (r.drop (1 : Int).toNat) with
      | none => rw [hq] at h; cases h
      | some q =>
        rw [hq] at h
        simp only [Option.map_some, Option.some.injEq] at h
        subst h
        obtain ⟨h1, h2⟩ := ih _ q (octs_drop ho _) hq
        have e8 : (1 : Int).toNat = 1 := rfl
        rw [e8] at h1 hq ⊢
        refine ⟨?_, h2⟩
        cases r with
        | nil => simp at h8
        | cons c r =>
          simp only [pkAll, e8]
          rw [show (c :: r).take 1 = [c] from rfl, back1 (ho c List.mem_cons_self), List.append_assoc, ← h1]
          rfl
    · cases h
theorem itake_inv {b : List Int} (ho : octs b) (h : (itake b).2.2.2 = 0) :
    tchk (itake b).1 (itake b).2.1 = true ∧ b = encT (itake b).1 (itake b).2.1 ++ (itake b).2.2.1 ∧ octs (itake b).2.2.1 ∧ ∀ n ∈ (itake b).2.1, -9223372036854775808 ≤ n ∧ n ≤ 9223372036854775807 := by
  rcases itake_cases b with hb | ⟨_, hc, h0, h1, h2⟩
  · rw [hb] at h; cases h
  · generalize (itake b).1 = s at hc h1 h2 ⊢
    generalize (itake b).2.1 = d at h2 ⊢
    generalize (itake b).2.2.1 = r at h2 ⊢
    have hlen := (tl_len 8 _ _ _ h2).2
    simp only at hlen
    have hs := siz_ok (s := s)
    have ht : tchk s d = true := by
      simp only [tchk, hc, Bool.true_and, decide_eq_true_eq]
      omega
    unfold pkTakeList at h0 h1 h2
    by_cases hg : okSize 1 = true ∧ 1 ≤ b.length
    · rw [if_pos hg] at h0 h1 h2
      cases hp : pkTL 1 (tkl 0 (b.take 1)).toNat (b.drop 1) with
      | none => rw [hp] at h0; cases h0
      | some p =>
        rw [hp] at h1 h2
        simp only at h1 h2
        subst h1
        obtain ⟨i1, i2⟩ := tl_inv1 _ _ _ (octs_drop ho 1) hp
        obtain ⟨j1, j2, j3⟩ := tl_inv8 _ _ _ i2 h2
        have hm := (tl_len 1 _ _ _ hp).2
        refine ⟨ht, ?_, j2, j3⟩
        cases b with
        | nil => simp at hg
        | cons c b =>
          have hcr := ho c List.mem_cons_self
          rw [tkl_head hcr] at hm
          have : (p.1.length : Int) = c := by omega
          simp only at j1
          rw [List.drop_succ_cons, List.drop_zero] at i1
          rw [encT, this, List.cons_append, List.append_assoc, ← j1, ← i1]
    · rw [if_neg hg] at h0; cases h0
theorem may8 (n : Int) : pkMay n 8 = true := by simp [pkMay]
theorem itake_enc {s d : List Int} (t : List Int) (ht : tchk s d = true) (hd : ∀ n ∈ d, -9223372036854775808 ≤ n ∧ n ≤ 9223372036854775807) : itake (encT s d ++ t) = (s, d, t, 0) := by
  have hl := tchk_len ht
  simp only [tchk, Bool.and_eq_true, decide_eq_true_eq] at ht
  have hs := (chk_iff.mp ht.1).2.1
  have h1 : pkTakeList (encT s d ++ t) 1 = (s, pkAll 8 d ++ t, 0) := by
    unfold pkTakeList
    rw [if_pos ⟨rfl, by simp only [List.length_append, encT_length]; omega⟩]
    have e1 : tkl 0 ((encT s d ++ t).take 1) = (s.length : Int) := by
      rw [encT, List.cons_append]
      exact tkl_head (by omega)
    have e2 : (encT s d ++ t).drop 1 = pkAll 1 s ++ (pkAll 8 d ++ t) := by
      rw [encT, List.cons_append, List.drop_succ_cons, List.drop_zero, List.append_assoc]
    rw [e1, e2, Int.toNat_natCast, tl_all 1 _ s (fun n hn => ⟨side_may hs n hn, by have := hs n hn; omega, by have := hs n hn; omega⟩)]
  unfold itake
  rw [h1]
  simp only
  rw [if_pos ⟨trivial, ht.1⟩, ← ht.2, Int.toNat_natCast, tl_all 8 _ d (fun n hn => ⟨may8 n, (hd n hn).1, (hd n hn).2⟩)]
theorem itake_err {b : List Int} (h : ¬ (itake b).2.2.2 = 0) : itake b = ([], [], [], 50) := by
  rcases itake_cases b with hb | ⟨h0, _⟩
  · exact hb
  · exact absurd h0 h
theorem itake_less {b : List Int} (ho : octs b) (h : (itake b).2.2.2 = 0) : (itake b).2.2.1.length + 1 ≤ b.length := by
  have h1 := (itake_inv ho h).2.1
  have h2 : b.length = (encT (itake b).1 (itake b).2.1).length + (itake b).2.2.1.length := by
    rw [← List.length_append, ← h1]
  rw [encT_length] at h2
  omega
theorem encT_le {s d : List Int} (h : tchk s d = true) : (encT s d).length ≤ 1000 := by
  have := tchk_len h
  rw [encT_length]
  omega
theorem octs_encT {s d : List Int} (h : tchk s d = true) : octs (encT s d) := by
  have hl := tchk_len h
  intro x hx
  rcases List.mem_cons.1 hx with rfl | hx
  · omega
  · rcases List.mem_append.1 hx with hx | hx
    · exact octs_all 1 s x hx
    · exact octs_all 8 d x hx
theorem itake_small {b : List Int} (ho : octs b) : (itake b).1.length ≤ 3 ∧ (itake b).2.1.length ≤ 64 ∧ (itake b).2.2.1.length ≤ b.length := by
  by_cases h : (itake b).2.2.2 = 0
  · have h1 := tchk_len (itake_inv ho h).1
    have h2 := itake_less ho h
    exact ⟨h1.1, h1.2, by omega⟩
  · rw [itake_err h]; simp
end Go.Proofs.Ytjcgadfmhfhbgaa.Plain
