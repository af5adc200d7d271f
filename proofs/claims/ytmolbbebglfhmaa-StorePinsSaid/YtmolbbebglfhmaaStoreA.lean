/- What the functions of layer 18 answer, in plain words; no conditions. -/
import Derived.Test.YtmolbbebglfhmaaChainC
import Derived.Test.YtmolbbebglfhmaaAx3
import Derived.Test.YtmolbbebglfhmaaAx4
import Derived.Test.YtmolbbebglfhmaaAx6
import Derived.Test.YtmolbbebglfhmaaAx7
import Derived.Test.YtmolbbebglfhmaaAx8
import Derived.Test.YtmolbbebglfhmaaAx1
namespace Go.Proofs.Ytmolbbebglfhmaa.Plain
open Go.RowKit Go.Proofs.Ytmolbbebglfhmaa.A Go.Proofs.YtmolbbebglfhmaaW.PrintWords Go.Proofs.YtmolbbebglfhmaaW.PrintLast Go.Proofs.YtmolbbebglfhmaaW.PrintMore
set_option linter.unusedVariables false
set_option linter.unusedSimpArgs false
def srtN (P : List Int) : Nat → Bool
  | 0 => true
  | n + 1 => decide (rd P (n : Int) ≤ rd P ((n + 1 : Nat) : Int)) && srtN P n
theorem less_f (a b : Int) : cmp_Less_int.f a b = some (decide (a < b)) := by
  simp [cmp_Less_int.f, cmp_isNaN_int.f]
theorem wdown {n : Nat} (h : n < 9223372036854775807) : wrap64 (((n + 1 : Nat) : Int) - 1) = (n : Int) := by
  rw [w64 (by omega) (by omega)]; omega
theorem sorted_l0 (P : List Int) (hm : P.length ≤ 1000) : ∀ (n k : Nat), n < P.length → n + 1 ≤ k → slices_IsSorted_int_int.l0 k P (n : Int) = some (srtN P n)
  | 0, k + 1, _, _ => by
    simp only [slices_IsSorted_int_int.l0]
    rw [if_neg (by omega)]; rfl
  | n + 1, k + 1, h, hk => by
    simp only [slices_IsSorted_int_int.l0]
    rw [if_pos (by omega), if_pos (by omega), if_pos (by omega), wdown (by omega), if_pos (by omega), if_pos (by omega), less_f]
    simp only [Option.bind_some, srtN]
    by_cases c : rd P ((n + 1 : Nat) : Int) < rd P (n : Int)
    · rw [if_pos (by simpa using c), show decide (rd P (n : Int) ≤ rd P ((n + 1 : Nat) : Int)) = false from decide_eq_false (by omega)]; rfl
    · rw [if_neg (by simpa using c), sorted_l0 P hm n k (by omega) (by omega), show decide (rd P (n : Int) ≤ rd P ((n + 1 : Nat) : Int)) = true from decide_eq_true (by omega)]; rfl
theorem sorted_f (P : List Int) (hm : P.length ≤ 1000) (k : Nat) (hk : P.length + 1 ≤ k) : slices_IsSorted_int_int.f k P = some (srtN P (P.length - 1)) := by
  unfold slices_IsSorted_int_int.f
  obtain ⟨k, rfl⟩ : ∃ m, k = m + 1 := ⟨k - 1, by omega⟩
  cases hl : P.length with
  | zero =>
    rw [show wrap64 (((0 : Nat) : Int) - 1) = -1 from by rw [w64 (by omega) (by omega)]; rfl]
    simp only [slices_IsSorted_int_int.l0]
    rw [if_neg (by decide)]; rfl
  | succ n =>
    rw [wdown (by omega), sorted_l0 P hm n (k + 1) (by omega) (by omega)]; rfl
theorem srtN_le {P : List Int} : ∀ {n : Nat}, srtN P n = true → ∀ i j : Nat, i ≤ j → j ≤ n → rd P (i : Int) ≤ rd P (j : Int)
  | 0, _, i, j, hij, hj => by
    have : i = j := by omega
    subst this; exact Int.le_refl _
  | n + 1, h, i, j, hij, hj => by
    simp only [srtN, Bool.and_eq_true, decide_eq_true_eq] at h
    by_cases c : j = n + 1
    · subst c
      by_cases d : i = n + 1
      · subst d; exact Int.le_refl _
      · exact Int.le_trans (srtN_le h.2 i n (by omega) (Nat.le_refl _)) h.1
    · exact srtN_le h.2 i j hij (by omega)
theorem srtN_of {P : List Int} : ∀ {n : Nat}, (∀ i j : Nat, i ≤ j → j ≤ n → rd P (i : Int) ≤ rd P (j : Int)) → srtN P n = true
  | 0, _ => rfl
  | n + 1, h => by
    simp only [srtN, Bool.and_eq_true, decide_eq_true_eq]
    exact ⟨h n (n + 1) (by omega) (by omega), srtN_of fun i j hij hj => h i j hij (by omega)⟩
theorem rd_at {P : List Int} {i : Nat} (h : i < P.length) : rd P (i : Int) = P[i] := by simp [rd, List.getD_eq_getElem?_getD, h]
def Rise (P : List Int) : Prop := ∀ i j : Nat, i ≤ j → j < P.length → rd P (i : Int) ≤ rd P (j : Int)
theorem rise_iff {P : List Int} : srtN P (P.length - 1) = true ↔ Rise P :=
  ⟨fun h i j hij hj => srtN_le h i j hij (by omega), fun h => srtN_of fun i j hij hj => by
    by_cases c : P.length = 0
    · have : i = j := by omega
      subst this; exact Int.le_refl _
    · exact h i j hij (by omega)⟩
theorem half {lo hi : Nat} (h : lo + hi ≤ 10000) : wrap64 ((IntKind.u64.wrap (wrap64 ((lo : Int) + (hi : Int)))) / 2) = (((lo + hi) / 2 : Nat) : Int) := by
  have e1 : wrap64 ((lo : Int) + (hi : Int)) = ((lo + hi : Nat) : Int) := by rw [w64 (by omega) (by omega)]; omega
  have e2 : IntKind.u64.wrap (((lo + hi : Nat) : Int)) = ((lo + hi : Nat) : Int) := by
    simp [IntKind.wrap, IntKind.bits, IntKind.signed]
    omega
  rw [e1, e2, show ((lo + hi : Nat) : Int) / 2 = (((lo + hi) / 2 : Nat) : Int) from by omega, w64 (by omega) (by omega)]
theorem nan_f (x : Int) : slices_isNaN_int.f x = some false := by simp [slices_isNaN_int.f]
theorem search_l0 (P : List Int) (a : Int) (hs : Rise P) (hm : P.length ≤ 1000) : ∀ (d k lo hi : Nat), hi - lo ≤ d → lo ≤ hi → hi ≤ P.length → d + 1 ≤ k → (∀ j : Nat, j < lo → rd P (j : Int) < a) → (∀ j : Nat, hi ≤ j → j < P.length → a ≤ rd P (j : Int)) →
    ∃ i : Nat, i ≤ P.length ∧ (∀ j : Nat, j < i → rd P (j : Int) < a) ∧ (∀ j : Nat, i ≤ j → j < P.length → a ≤ rd P (j : Int)) ∧ slices_BinarySearch_int_int.l0 k P a (P.length : Int) (lo : Int) (hi : Int) = some ((i : Int), decide (a ∈ P))
  | d, 0, lo, hi, h1, h2, h3, hk, hA, hB => by omega
  | d, k + 1, lo, hi, h1, h2, h3, hk, hA, hB => by
    simp only [slices_BinarySearch_int_int.l0]
    by_cases c : lo < hi
    · rw [if_pos (by omega), half (by omega), if_pos (by omega), if_pos (by omega), less_f]
      simp only [Option.bind_some]
      have hmlt : (lo + hi) / 2 < hi := by omega
      have hmge : lo ≤ (lo + hi) / 2 := by omega
      by_cases e : rd P (((lo + hi) / 2 : Nat) : Int) < a
      · rw [if_pos (by simpa using e), show wrap64 ((((lo + hi) / 2 : Nat) : Int) + 1) = (((lo + hi) / 2 + 1 : Nat) : Int) from by rw [w64 (by omega) (by omega)]; omega]
        exact search_l0 P a hs hm (d - 1) k _ hi (by omega) (by omega) h3 (by omega) (fun j hj => Int.lt_of_le_of_lt (hs j ((lo + hi) / 2) (by omega) (by omega)) e) hB
      · rw [if_neg (by simpa using e)]
        exact search_l0 P a hs hm (d - 1) k lo _ (by omega) (by omega) (by omega) (by omega) hA (fun j hj hjl => Int.le_trans (Int.not_lt.mp e) (hs ((lo + hi) / 2) j hj hjl))
    · rw [if_neg (by omega)]
      have hlh : lo = hi := by omega
      subst hlh
      refine ⟨lo, h3, hA, hB, ?_⟩
      by_cases e : lo < P.length
      · rw [if_pos (by omega), if_pos (by omega), if_pos (by omega)]
        by_cases f : rd P (lo : Int) = a
        · rw [if_pos f, show decide (a ∈ P) = true from decide_eq_true (by rw [← f, rd_at e]; exact List.getElem_mem e)]
        · rw [if_neg f, nan_f]
          simp only [Option.bind_some]
          rw [if_neg (by simp), show decide (a ∈ P) = false from decide_eq_false (fun hmem => by
            obtain ⟨j, hj, hja⟩ := List.getElem_of_mem hmem
            rw [← rd_at hj] at hja
            by_cases g : j < lo
            · have := hA j g; omega
            · have q1 := hB lo (Nat.le_refl _) e
              have q2 := hs lo j (by omega) hj
              omega)]
      · rw [if_neg (by omega), show decide (a ∈ P) = false from decide_eq_false (fun hmem => by
            obtain ⟨j, hj, hja⟩ := List.getElem_of_mem hmem
            rw [← rd_at hj] at hja
            have := hA j (by omega); omega)]
theorem search_f (P : List Int) (a : Int) (hs : Rise P) (hm : P.length ≤ 1000) (k : Nat) (hk : P.length + 1 ≤ k) :
    ∃ i : Nat, i ≤ P.length ∧ (∀ j : Nat, j < i → rd P (j : Int) < a) ∧ (∀ j : Nat, i ≤ j → j < P.length → a ≤ rd P (j : Int)) ∧ slices_BinarySearch_int_int.f k P a = some ((i : Int), decide (a ∈ P)) := by
  unfold slices_BinarySearch_int_int.f
  exact search_l0 P a hs hm P.length k 0 P.length (by omega) (by omega) (Nat.le_refl _) hk (fun j hj => by omega) (fun j hj hl => by omega)
structure SOk (C : List (List S74)) (now : Int) (P : List Int) : Prop where
  c8 : C.length = 8
  lo : 0 ≤ now
  hi : now ≤ 1099511627776
  pl : P.length ≤ 64
  ps : Rise P
  vs : ∀ l ∈ C, vchk l = true
  no : ∀ l ∈ C, nw l now = false
  pp : ∀ p ∈ P, 0 ≤ p ∧ p ≤ now
theorem wrong_f (k : Nat) (now : Int) (l : List S74) (hl : l.length ≤ 1000) (hk : 1100 ≤ k) : wrongF k now l = some (!vchk l || nw l now) := by
  unfold wrongF
  rw [vchk_f l (by omega) k (by omega)]
  simp only [Option.bind_some]
  cases h : vchk l with
  | false => rw [if_neg (by simp)]; rfl
  | true => rw [if_pos rfl, newer_f l now (by omega) k (by omega)]; rfl
theorem wrongs_f (k : Nat) (now : Int) (hk : 1100 ≤ k) : ∀ (C : List (List S74)), (∀ l ∈ C, l.length ≤ 1000) → wrongs k now C = some (C.any fun l => !vchk l || nw l now)
  | [], _ => rfl
  | l :: r, h => by
    simp only [wrongs, wrong_f k now l (h l List.mem_cons_self) hk, wrongs_f k now hk r (fun x hx => h x (List.mem_cons_of_mem _ hx)), Option.bind_some, List.any_cons]
theorem check_any {C : List (List S74)} {now : Int} {P : List Int} (hC : ∀ l ∈ C, l.length ≤ 1000) (k : Nat) (hk : 1100 ≤ k) : ∃ b, store_Check.f k C now P = some b ∧ (b = true ↔ SOk C now P) := by
  unfold store_Check.f
  by_cases h1 : C.length = 8
  · rw [if_pos h1]
    by_cases h2 : 0 ≤ now
    · rw [if_pos h2]
      by_cases h3 : now ≤ 1099511627776
      · rw [if_pos h3]
        by_cases h4 : P.length ≤ 64
        · rw [if_pos h4, sorted_f P (by omega) k (by omega)]
          simp only [Option.bind_some]
          cases h5 : srtN P (P.length - 1) with
          | false => exact ⟨false, by rw [if_neg (by simp)], by simp; intro h; have := rise_iff.mpr h.ps; rw [h5] at this; cases this⟩
          | true =>
            rw [if_pos rfl, wrongs_f k now hk C hC]
            refine ⟨_, rfl, ?_⟩
            simp only [Bool.and_eq_true, Bool.not_eq_true', List.any_eq_false, Bool.or_eq_true, Bool.not_eq_true, not_or, decide_eq_true_eq]
            constructor
            · rintro ⟨q1, q2⟩
              exact ⟨h1, h2, h3, h4, rise_iff.mp h5, fun l hl => by have := (q1 l hl).1; simpa using this, fun l hl => by have := (q1 l hl).2; simpa using this, fun p hp => by have := q2 p hp; omega⟩
            · intro h
              exact ⟨fun l hl => ⟨by simp [h.vs l hl], by simp [h.no l hl]⟩, fun p hp => by have := h.pp p hp; omega⟩
        · exact ⟨false, by rw [if_neg h4], by simp; intro h; exact h4 h.pl⟩
      · exact ⟨false, by rw [if_neg h3], by simp; intro h; exact h3 h.hi⟩
    · exact ⟨false, by rw [if_neg h2], by simp; intro h; exact h2 h.lo⟩
  · exact ⟨false, by rw [if_neg h1], by simp; intro h; exact h1 h.c8⟩
theorem SOk.len {C : List (List S74)} {now : Int} {P : List Int} (h : SOk C now P) : ∀ l ∈ C, l.length ≤ 16 := fun l hl => (vchk_iff.mp (h.vs l hl)).1
theorem SOk.check {C : List (List S74)} {now : Int} {P : List Int} (h : SOk C now P) {k : Nat} (hk : 1100 ≤ k) : store_Check.f k C now P = some true := by
  obtain ⟨b, hb, hi⟩ := check_any (now := now) (P := P) (fun l hl => by have := h.len l hl; omega) k hk
  rw [hb, hi.mpr h]
theorem cAt_eq {C : List (List S74)} {p : Nat} (h : p < C.length) : cAt C (p : Int) = C[p] := by simp [cAt, List.getD_eq_getElem?_getD, h]
theorem rdL_eq {C : List (List S74)} {p : Nat} (h : p < C.length) : rd_L4 C (p : Int) = C[p] := by simp [rd_L4, List.getD_eq_getElem?_getD, h]
theorem cAt_mem {C : List (List S74)} {p : Int} (h0 : 0 ≤ p) (h : p < (C.length : Int)) : cAt C p ∈ C := by
  obtain ⟨n, rfl⟩ := Int.eq_ofNat_of_zero_le h0
  rw [cAt_eq (by omega)]; exact List.getElem_mem _
theorem par_iff {p : Int} : isPar p = true ↔ 0 ≤ p ∧ p < 8 := by simp [isPar]
theorem clone_f (l : List Int) (h : l.length ≤ 1000) : slices_Clone_int_int.f l = some l := by
  unfold slices_Clone_int_int.f
  rw [if_pos (Nat.lt_of_le_of_lt h (by decide))]
theorem del_f (P : List Int) (i : Nat) (h : i < P.length) (hm : P.length ≤ 1000) : slices_Delete_int_int.f P (i : Int) (wrap64 ((i : Int) + 1)) = some (P.take i ++ P.drop (i + 1)) := by
  have e : wrap64 ((i : Int) + 1) = ((i + 1 : Nat) : Int) := wone_ (Nat.lt_of_lt_of_le h (Nat.le_trans hm (by decide)))
  have e2 : 0 ≤ (i : Int) ∧ (i : Int) < ((i + 1 : Nat) : Int) ∧ ((i + 1 : Nat) : Int) ≤ (P.length : Int) := by clear e; omega
  rw [e]
  unfold slices_Delete_int_int.f
  rw [if_pos e2, Int.toNat_natCast, Int.toNat_natCast]
theorem mem_at {P : List Int} {st : Int} (h : st ∈ P) : ∃ j : Nat, j < P.length ∧ rd P (j : Int) = st := by
  obtain ⟨j, hj, hja⟩ := List.getElem_of_mem h
  exact ⟨j, hj, by rw [rd_at hj]; exact hja⟩
theorem free_i {P : List Int} {st : Int} {i : Nat} (h2 : ∀ j : Nat, j < i → rd P (j : Int) < st) (hm : st ∈ P) : i < P.length := by
  obtain ⟨j, hj, hja⟩ := mem_at hm
  rcases Nat.lt_or_ge j i with c | c
  · exact absurd (h2 j c) (by rw [hja]; exact Int.lt_irrefl _)
  · exact Nat.lt_of_le_of_lt c hj
theorem free_g {C : List (List S74)} {now : Int} {P : List Int} {k : Nat} {st : Int} {i : Nat} (hc : store_Check.f k C now P = some true) (hm : P.length ≤ 1000) (h4 : slices_BinarySearch_int_int.f k P st = some ((i : Int), decide (st ∈ P))) (hi : st ∈ P → i < P.length) :
    store_Free.f k C now P st = some (if st ∈ P then (C, now, P.take i ++ P.drop (i + 1), 0) else (C, now, P, 180)) := by
  unfold store_Free.f
  rw [hc]
  simp only [Option.bind_some]
  rw [if_pos trivial, h4]
  simp only [Option.bind_some]
  by_cases c : st ∈ P
  · rw [if_pos (decide_eq_true c), if_pos c, clone_f P hm, Option.bind_some, del_f P i (hi c) hm, Option.bind_some]
  · rw [if_neg (by simpa using c), if_neg c]
theorem free_f {C : List (List S74)} {now : Int} {P : List Int} (h : SOk C now P) (st : Int) (k : Nat) (hk : 1100 ≤ k) :
    ∃ i : Nat, (∀ j : Nat, j < i → rd P (j : Int) < st) ∧ (∀ j : Nat, i ≤ j → j < P.length → st ≤ rd P (j : Int)) ∧ (st ∈ P → i < P.length) ∧ store_Free.f k C now P st = some (if st ∈ P then (C, now, P.take i ++ P.drop (i + 1), 0) else (C, now, P, 180)) := by
  have hp := h.pl
  obtain ⟨i, h1, h2, h3, h4⟩ := search_f P st h.ps (by omega) k (by omega)
  exact ⟨i, h2, h3, free_i h2, free_g (h.check hk) (by omega) h4 (free_i h2)⟩
theorem pin_f {C : List (List S74)} {now : Int} {P : List Int} (h : SOk C now P) (k : Nat) (hk : 1100 ≤ k) : store_Pin.f k C now P = some (if P.length = 64 then (C, now, P, 0, 171) else (C, now, P ++ [now], now, 0)) := by
  have hp := h.pl
  unfold store_Pin.f
  rw [h.check hk]
  simp only [Option.bind_some]
  rw [if_pos trivial]
  by_cases c : P.length = 64
  · rw [if_pos c, if_pos c]
  · rw [if_neg c, if_neg c, if_pos (Nat.lt_of_le_of_lt hp (by decide))]
def put1 (n : Int) (C : List (List S74)) (w : S42) : List (List S74) := C.set w.f0.toNat (cAt C w.f0 ++ [⟨n, w.f1⟩])
def Fit (n : Int) (l : List S74) (w : S42) : Prop := tchk w.f1.f0 w.f1.f1 = true ∧ (0 < l.length → hd l = w.f1.f0) ∧ l.length < 16 ∧ asc (match l.getLast? with | some v => v.f0 | none => -1) [(⟨n, w.f1⟩ : S74)] = true
theorem set_at {C : List (List S74)} {a b : Int} (ha : 0 ≤ a ∧ a < 8) (hb : 0 ≤ b ∧ b < 8) (h8 : C.length = 8) (x : List S74) : cAt (C.set a.toNat x) b = if a = b then x else cAt C b := by
  obtain ⟨m, rfl⟩ := Int.eq_ofNat_of_zero_le ha.1
  obtain ⟨n, rfl⟩ := Int.eq_ofNat_of_zero_le hb.1
  by_cases c : m = n
  · subst c
    rw [if_pos rfl, cAt_eq (by simp; omega)]
    simp
  · rw [if_neg (by omega), cAt_eq (by simp; omega), cAt_eq (by omega)]
    simp [List.getElem_set, c]
end Go.Proofs.Ytmolbbebglfhmaa.Plain
