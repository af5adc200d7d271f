/- What the functions of layer 18 answer, in plain words; no conditions. -/
import Derived.Test.YtmolbbebglfhmaaChainC
import Derived.Test.YtmolbbebglfhmaaAx3
import Derived.Test.YtmolbbebglfhmaaAx4
import Derived.Test.YtmolbbebglfhmaaAx6
import Derived.Test.YtmolbbebglfhmaaAx7
import Derived.Test.YtmolbbebglfhmaaAx8
import Derived.Test.YtmolbbebglfhmaaAx1
namespace Go.Proofs.Ytmolbbebglfhmaa.Plain
open Go.RowKit Go.Proofs.Ytmolbbebglfhmaa.A Go.Proofs.YtmolbbebglfhmaaW.PrintWords Go.Proofs.YtmolbbebglfhmaaW.PrintLast Go.Proofs.YtmolbbebglfhmaaW.PrintMore
set_option linter.unusedVariables false
set_option linter.unusedSimpArgs false
def srtN (P : List Int) : Nat → Bool
  | 0 => true
  | n + 1 => decide (rd P (n : Int) ≤ rd P ((n + 1 : Nat) : Int)) && srtN P n
theorem less_f (a b : Int) : cmp_Less_int.f a b = some (decide (a < b)) := by
  simp [cmp_Less_int.f, cmp_isNaN_int.f]
theorem wdown {n : Nat} (h : n < 9223372036854775807) : wrap64 (((n + 1 : Nat) : Int) - 1) = (n : Int) := by
  rw [w64 (by omega) (by omega)]; omega
theorem sorted_l0 (P : List Int) (hm : P.length ≤ 1000) : ∀ (n k : Nat), n < P.length → n + 1 ≤ k → slices_IsSorted_int_int.l0 k P (n : Int) = some (srtN P n)
  | 0, k + 1, _, _ => by
    simp only [slices_IsSorted_int_int.l0]
    rw [if_neg (by omega)]; rfl
  | n + 1, k + 1, h, hk => by
    simp only [slices_IsSorted_int_int.l0]
    rw [if_pos (by omega), if_pos (by omega), if_pos (by omega), wdown (by omega), if_pos (by omega), if_pos (by omega), less_f]
    simp only [Option.bind_some, srtN]
    by_cases c : rd P ((n + 1 : Nat) : Int) < rd P (n : Int)
    · rw [if_pos (by simpa using c), show decide (rd P (n : Int) ≤ rd P ((n + 1 : Nat) : Int)) = false from decide_eq_false (by omega)]; rfl
    · rw [if_neg (by simpa using c), sorted_l0 P hm n k (by omega) (by omega), show decide (rd P (n : Int) ≤ rd P ((n + 1 : Nat) : Int)) = true from decide_eq_true (by omega)]; rfl
theorem sorted_f (P : List Int) (hm : P.length ≤ 1000) (k : Nat) (hk : P.length + 1 ≤ k) : slices_IsSorted_int_int.f k P = some (srtN P (P.length - 1)) := by
  unfold slices_IsSorted_int_int.f
  obtain ⟨k, rfl⟩ : ∃ m, k = m + 1 := ⟨k - 1, by omega⟩
  cases hl : P.length with
  | zero =>
    rw [show wrap64 (((0 : Nat) : Int) - 1) = -1 from by rw [w64 (by omega) (by omega)]; rfl]
    simp only [slices_IsSorted_int_int.l0]
    rw [if_neg (by decide)]; rfl
  | succ n =>
    rw [wdown (by omega), sorted_l0 P hm n (k + 1) (by omega) (by omega)]; rfl
theorem srtN_le {P : List Int} : ∀ {n : Nat}, srtN P n = true → ∀ i j : Nat, i ≤ j → j ≤ n → rd P (i : Int) ≤ rd P (j : Int)
  | 0, _, i, j, hij, hj => by
    have : i = j := by omega
    subst this; exact Int.le_refl _
  | n + 1, h, i, j, hij, hj => by
    simp only [srtN, Bool.and_eq_true, decide_eq_true_eq] at h
    by_cases c : j = n + 1
    · subst c
      by_cases d : i = n + 1
      · subst d; exact Int.le_refl _
      · exact Int.le_trans (srtN_le h.2 i n (by omega) (Nat.le_refl _)) h.1
    · exact srtN_le h.2 i j hij (by omega)
theorem srtN_of {P : List Int} : ∀ {n : Nat}, (∀ i j : Nat, i ≤ j → j ≤ n → rd P (i : Int) ≤ rd P (j : Int)) → srtN P n = true
  | 0, _ => rfl
  | n + 1, h => by
    simp only [srtN, Bool.and_eq_true, decide_eq_true_eq]
    exact ⟨h n (n + 1) (by omega) (by omega), srtN_of fun i j hij hj => h i j hij (by omega)⟩
theorem rd_at {P : List Int} {i : Nat} (h : i < P.length) : rd P (i : Int) = P[i] := by simp [rd, List.getD_eq_getElem?_getD, h]
def Rise (P : List Int) : Prop := ∀ i j : Nat, i ≤ j → j < P.length → rd P (i : Int) ≤ rd P (j : Int)
theorem rise_iff {P : List Int} : srtN P (P.length - 1) = true ↔ Rise P :=
  ⟨fun h i j hij hj => srtN_le h i j hij (by omega), fun h => srtN_of fun i j hij hj => by
    by_cases c : P.length = 0
    · have : i = j := by omega
      subst this; exact Int.le_refl _
    · exact h i j hij (by omega)⟩
theorem half {lo hi : Nat} (h : lo + hi ≤ 10000) : wrap64 ((IntKind.u64.wrap (wrap64 ((lo : Int) + (hi : Int)))) / 2) = (((lo + hi) / 2 : Nat) : Int) := by
  have e1 : wrap64 ((lo : Int) + (hi : Int)) = ((lo + hi : Nat) : Int) := by rw [w64 (by omega) (by omega)]; omega
  have e2 : IntKind.u64.wrap (((lo + hi : Nat) : Int)) = ((lo + hi : Nat) : Int) := by
    simp [IntKind.wrap, IntKind.bits, IntKind.signed]
    omega
  rw [e1, e2, show ((lo + hi : Nat) : Int) / 2 = (((lo + hi) / 2 : Nat) : Int) from by omega, w64 (by omega) (by omega)]
theorem nan_f (x : Int) : slices_isNaN_int.f x = some false := by simp [slices_isNaN_int.f]
theorem search_l0 (P : List Int) (a : Int) (hs : Rise P) (hm : P.length ≤ 1000) : ∀ (d k lo hi : Nat), hi - lo ≤ d → lo ≤ hi → hi ≤ P.length → d + 1 ≤ k → (∀ j : Nat, j < lo → rd P (j : Int) < a) → (∀ j : Nat, hi ≤ j → j < P.length → a ≤ rd P (j : Int)) →
    ∃ i : Nat, i ≤ P.length ∧ (∀ j : Nat, j < i → rd P (j : Int) < a) ∧ (∀ j : Nat, i ≤ j → j < P.length → a ≤ rd P (j : Int)) ∧ slices_BinarySearch_int_int.l0 k P a (P.length : Int) (lo : Int) (hi : Int) = some ((i : Int), decide (a ∈ P))
  | d, 0, lo, hi, h1, h2, h3, hk, hA, hB => by omega
  | d, k + 1, lo, hi, h1, h2, h3, hk, hA, hB => by
    simp only [slices_BinarySearch_int_int.l0]
    by_cases c : lo < hi
    · rw [if_pos (by omega), half (by omega), if_pos (by omega), if_pos (by omega), less_f]
      simp only [Option.bind_some]
      have hmlt : (lo + hi) / 2 < hi := by omega
      have hmge : lo ≤ (lo + hi) / 2 := by omega
      by_cases e : rd P (((lo + hi) / 2 : Nat) : Int) < a
      · rw [if_pos (by simpa using e), show wrap64 ((((lo + hi) / 2 : Nat) : Int) + 1) = (((lo + hi) / 2 + 1 : Nat) : Int) from by rw [w64 (by omega) (by omega)]; omega]
        exact search_l0 P a hs hm (d - 1) k _ hi (by omega) (by omega) h3 (by omega) (fun j hj => Int.lt_of_le_of_lt (hs j ((lo + hi) / 2) (by omega) (by omega)) e) hB
      · rw [if_neg (by simpa using e)]
        exact search_l0 P a hs hm (d - 1) k lo _ (by omega) (by omega) (by omega) (by omega) hA (fun j hj hjl => Int.le_trans (Int.not_lt.mp e) (hs ((lo + hi) / 2) j hj hjl))
    · rw [if_neg (by omega)]
      have hlh : lo = hi := by omega
      subst hlh
      refine ⟨lo, h3, hA, hB, ?_⟩
      by_cases e : lo < P.length
      · rw [if_pos (by omega), if_pos (by omega), if_pos (by omega)]
        by_cases f : rd P (lo : Int) = a
        · rw [if_pos f, show decide (a ∈ P) = true from decide_eq_true (by rw [← f, rd_at e]; exact List.getElem_mem e)]
        · rw [if_neg f, nan_f]
          simp only [Option.bind_some]
          rw [if_neg (by simp), show decide (a ∈ P) = false from decide_eq_false (fun hmem => by
            obtain ⟨j, hj, hja⟩ := List.getElem_of_mem hmem
            rw [← rd_at hj] at hja
            by_cases g : j < lo
            · have := hA j g; omega
            · have q1 := hB lo (Nat.le_refl _) e
              have q2 := hs lo j (by omega) hj
              omega)]
      · rw [if_neg (by omega), show decide (a ∈ P) = false from decide_eq_false (fun hmem => by
            obtain ⟨j, hj, hja⟩ := List.getElem_of_mem hmem
            rw [← rd_at hj] at hja
            have := hA j (by omega); omega)]
theorem search_f (P : List Int) (a : Int) (hs : Rise P) (hm : P.length ≤ 1000) (k : Nat) (hk : P.length + 1 ≤ k) :
    ∃ i : Nat, i ≤ P.length ∧ (∀ j : Nat, j < i → rd P (j : Int) < a) ∧ (∀ j : Nat, i ≤ j → j < P.length → a ≤ rd P (j : Int)) ∧ slices_BinarySearch_int_int.f k P a = some ((i : Int), decide (a ∈ P)) := by
  unfold slices_BinarySearch_int_int.f
  exact search_l0 P a hs hm P.length k 0 P.length (by omega) (by omega) (Nat.le_refl _) hk (fun j hj => by omega) (fun j hj hl => by omega)
structure SOk (C : List (List S74)) (now : Int) (P : List Int) : Prop where
  c8 : C.length = 8
  lo : 0 ≤ now
  hi : now ≤ 1099511627776
  pl : P.length ≤ 64
  ps : Rise P
  vs : ∀ l ∈ C, vchk l = true
  no : ∀ l ∈ C, nw l now = false
  pp : ∀ p ∈ P, 0 ≤ p ∧ p ≤ now
theorem wrong_f (k : Nat) (now : Int) (l : List S74) (hl : l.length ≤ 1000) (hk : 1100 ≤ k) : wrongF k now l = some (!vchk l || nw l now) := by
  unfold wrongF
  rw [vchk_f l (by omega) k (by omega)]
  simp only [Option.bind_some]
  cases h : vchk l with
  | false => rw [if_neg (by simp)]; rfl
  | true => rw [if_pos rfl, newer_f l now (by omega) k (by omega)]; rfl
theorem wrongs_f (k : Nat) (now : Int) (hk : 1100 ≤ k) : ∀ (C : List (List S74)), (∀ l ∈ C, l.length ≤ 1000) → wrongs k now C = some (C.any fun l => !vchk l || nw l now)
  | [], _ => rfl
  | l :: r, h => by
    simp only [wrongs, wrong_f k now l (h l List.mem_cons_self) hk, wrongs_f k now hk r (fun x hx => h x (List.mem_cons_of_mem _ hx)), Option.bind_some, List.any_cons]
theorem check_any {C : List (List S74)} {now : Int} {P : List Int} (hC : ∀ l ∈ C, l.length ≤ 1000) (k : Nat) (hk : 1100 ≤ k) : ∃ b, store_Check.f k C now P = some b ∧ (b = true ↔ SOk C now P) := by
  unfold store_Check.f
  by_cases h1 : C.length = 8
  · rw [if_pos h1]
    by_cases h2 : 0 ≤ now
    · rw [if_pos h2]
      by_cases h3 : now ≤ 1099511627776
      · rw [if_pos h3]
        by_cases h4 : P.length ≤ 64
        · rw [if_pos h4, sorted_f P (by omega) k (by omega)]
          simp only [Option.bind_some]
          cases h5 : srtN P (P.length - 1) with
          | false => exact ⟨false, by rw [if_neg (by simp)], by simp; intro h; have := rise_iff.mpr h.ps; rw [h5] at this; cases this⟩
          | true =>
            rw [if_pos rfl, wrongs_f k now hk C hC]
            refine ⟨_, rfl, ?_⟩
            simp only [Bool.and_eq_true, Bool.not_eq_true', List.any_eq_false, Bool.or_eq_true, Bool.not_eq_true, not_or, decide_eq_true_eq]
            constructor
            · rintro ⟨q1, q2⟩
              exact ⟨h1, h2, h3, h4, rise_iff.mp h5, fun l hl => by have := (q1 l hl).1; simpa using this, fun l hl => by have := (q1 l hl).2; simpa using this, fun p hp => by have := q2 p hp; omega⟩
            · intro h
              exact ⟨fun l hl => ⟨by simp [h.vs l hl], by simp [h.no l hl]⟩, fun p hp => by have := h.pp p hp; omega⟩
        · exact ⟨false, by rw [if_neg h4], by simp; intro h; exact h4 h.pl⟩
      · exact ⟨false, by rw [if_neg h3], by simp; intro h; exact h3 h.hi⟩
    · exact ⟨false, by rw [if_neg h2], by simp; intro h; exact h2 h.lo⟩
  · exact ⟨false, by rw [if_neg h1], by simp; intro h; exact h1 h.c8⟩
theorem SOk.len {C : List (List S74)} {now : Int} {P : List Int} (h : SOk C now P) : ∀ l ∈ C, l.length ≤ 16 := fun l hl => (vchk_iff.mp (h.vs l hl)).1
theorem SOk.check {C : List (List S74)} {now : Int} {P : List Int} (h : SOk C now P) {k : Nat} (hk : 1100 ≤ k) : store_Check.f k C now P = some true := by
  obtain ⟨b, hb, hi⟩ := check_any (now := now) (P := P) (fun l hl => by have := h.len l hl; omega) k hk
  rw [hb, hi.mpr h]
theorem cAt_eq {C : List (List S74)} {p : Nat} (h : p < C.length) : cAt C (p : Int) = C[p] := by simp [cAt, List.getD_eq_getElem?_getD, h]
theorem rdL_eq {C : List (List S74)} {p : Nat} (h : p < C.length) : rd_L4 C (p : Int) = C[p] := by simp [rd_L4, List.getD_eq_getElem?_getD, h]
theorem cAt_mem {C : List (List S74)} {p : Int} (h0 : 0 ≤ p) (h : p < (C.length : Int)) : cAt C p ∈ C := by
  obtain ⟨n, rfl⟩ := Int.eq_ofNat_of_zero_le h0
  rw [cAt_eq (by omega)]; exact List.getElem_mem _
theorem par_iff {p : Int} : isPar p = true ↔ 0 ≤ p ∧ p < 8 := by simp [isPar]
theorem sread_f {C : List (List S74)} {now : Int} {P : List Int} (h : SOk C now P) (p : Nat) (hp : p < 8) (st : Int) (k : Nat) (hk : 1100 ≤ k) : store_Read.f k C now P (p : Int) st = some (rdv (cAt C p) st) := by
  have h8 := h.c8
  have hl := h.len _ (cAt_mem (C := C) (p := (p : Int)) (by omega) (by omega))
  have hp2 : p < C.length := by omega
  unfold store_Read.f
  rw [param_f, show isPar (p : Int) = true from par_iff.mpr (by omega)]
  simp only [Option.bind_some]
  rw [if_pos trivial, h.check hk]
  simp only [Option.bind_some]
  rw [if_pos trivial, if_pos (by omega), if_pos (by omega), rdL_eq hp2, ← cAt_eq hp2, read_f _ st (by omega) k (by omega)]
  rfl
def rt (l : List S74) (st : Int) : S37 := ⟨(rdv l st).1, (rdv l st).2.1⟩
theorem all_l0 (C : List (List S74)) (st : Int) (hC : ∀ l ∈ C, l.length ≤ 1000) (hm : C.length ≤ 1000) (d : Nat) : ∀ (k i : Nat) (acc : List S37), C.length - i = d → i ≤ C.length → d + 1100 ≤ k → acc.length ≤ 1000 + i → store_All.l0 k st acc C (C.length : Int) (i : Int) = some (acc ++ (C.drop i).map fun l => rt l st) := by
  induction d with
  | zero =>
    intro k i acc hdd hi hk ha
    obtain ⟨k, rfl⟩ : ∃ m, k = m + 1 := ⟨k - 1, by omega⟩
    simp only [store_All.l0]
    rw [if_neg (by omega), List.drop_eq_nil_of_le (by omega)]; simp
  | succ d ih =>
    intro k i acc hdd hi hk ha
    obtain ⟨k, rfl⟩ : ∃ m, k = m + 1 := ⟨k - 1, by omega⟩
    have hlt : i < C.length := by omega
    have hl := hC _ (List.getElem_mem hlt)
    simp only [store_All.l0]
    rw [if_pos (by omega), if_pos (by omega), if_pos (by omega), rdL_eq hlt, read_f _ st (by omega) k (by omega)]
    simp only [Option.bind_some]
    rw [if_pos (show acc.length < 2932031007402 by omega), show wrap64 ((i : Int) + 1) = ((i + 1 : Nat) : Int) from by rw [w64 (by omega) (by omega)]; omega, ih k (i + 1) _ (by omega) (by omega) (by omega) (by rw [List.length_append, List.length_singleton]; omega), List.drop_eq_getElem_cons hlt, List.map_cons, List.append_assoc]
    rfl
theorem all_f {C : List (List S74)} {now : Int} {P : List Int} (h : SOk C now P) (st : Int) (k : Nat) (hk : 1200 ≤ k) : store_All.f k C now P st = some (C.map fun l => rt l st) := by
  have h8 := h.c8
  unfold store_All.f
  rw [h.check (by omega)]
  simp only [Option.bind_some]
  rw [if_pos trivial]
  have := all_l0 C st (fun l hl => by have := h.len l hl; omega) (by omega) C.length k 0 [] (by omega) (by omega) (by omega) (by simp)
  simpa using this
theorem clone_f (l : List Int) (h : l.length ≤ 1000) : slices_Clone_int_int.f l = some l := by
  unfold slices_Clone_int_int.f
  rw [if_pos (Nat.lt_of_le_of_lt h (by decide))]
theorem nmGo_f : ∀ (l : List S42) (seen acc : List Int), acc.length + l.length < 17592186044416 → ∃ r, nmGo l seen acc = some r ∧ (r.2 = true → r.1 = acc ++ l.map (fun w => w.f0) ∧ (∀ p ∈ r.1, isPar p = true) ∧ (l.map (fun w => w.f0)).Nodup ∧ ∀ p ∈ l.map (fun w => w.f0), p ∉ seen)
  | [], seen, acc, _ => by
    refine ⟨_, rfl, fun h => ⟨by simp, fun p hp => ?_, by simp, by simp⟩⟩
    simp only [Bool.not_eq_true', List.any_eq_false] at h
    have := h p hp
    simpa using this
  | v :: r, seen, acc, hl => by
    simp only [nmGo]
    by_cases c : isPar v.f0 = true ∧ v.f0 ∉ seen
    · have hl1 : acc.length < 17592186044416 := Nat.lt_of_le_of_lt (Nat.le_add_right _ _) hl
      rw [if_pos c, if_pos hl1]
      obtain ⟨q, hq, hi⟩ := nmGo_f r (v.f0 :: seen) (acc ++ [v.f0]) (by rw [List.length_append, List.length_singleton]; rw [List.length_cons] at hl; omega)
      refine ⟨q, hq, fun h => ?_⟩
      obtain ⟨i1, i2, i3, i4⟩ := hi h
      refine ⟨by rw [i1]; simp, i2, ?_, ?_⟩
      · rw [List.map_cons, List.nodup_cons]
        exact ⟨fun hm => i4 _ hm List.mem_cons_self, i3⟩
      · intro p hp
        rw [List.map_cons, List.mem_cons] at hp
        rcases hp with rfl | hp
        · exact c.2
        · exact fun hm => i4 p hp (List.mem_cons_of_mem _ hm)
    · rw [if_neg c]
      exact ⟨_, rfl, fun h => by cases h⟩
theorem named_f (l2 : List Int) (l3 : List S42) (h2 : l2.length ≤ 1000) (h3 : l3.length ≤ 1000) : ∃ r, store_named.f l2 l3 = some r ∧ (r.2 = true → r.1 = l2 ++ l3.map (fun w => w.f0) ∧ (∀ p ∈ r.1, isPar p = true) ∧ (l3.map (fun w => w.f0)).Nodup) := by
  unfold store_named.f
  rw [clone_f l2 h2]
  obtain ⟨r, hr, hi⟩ := nmGo_f l3 [] l2 (Nat.lt_of_le_of_lt (Nat.add_le_add h2 h3) (by decide))
  exact ⟨r, hr, fun h => ⟨(hi h).1, (hi h).2.1, (hi h).2.2.1⟩⟩
theorem newers_f (k : Nat) (C : List (List S74)) (st : Int) (hk : 1100 ≤ k) (hC : ∀ l ∈ C, l.length ≤ 1000) : ∀ (ps : List Int), (∀ p ∈ ps, 0 ≤ p ∧ p < (C.length : Int)) → cmNewer k C st ps = some (ps.any fun p => nw (cAt C p) st)
  | [], _ => rfl
  | p :: r, h => by
    have hp := h p List.mem_cons_self
    have hl := hC _ (cAt_mem hp.1 hp.2)
    simp only [cmNewer, newer_f _ st (show (cAt C p).length ≤ 9223372036854775806 by omega) k (by omega), newers_f k C st hk hC r (fun x hx => h x (List.mem_cons_of_mem _ hx)), Option.bind_some, List.any_cons]
def put1 (n : Int) (C : List (List S74)) (w : S42) : List (List S74) := C.set w.f0.toNat (cAt C w.f0 ++ [⟨n, w.f1⟩])
def Fit (n : Int) (l : List S74) (w : S42) : Prop := tchk w.f1.f0 w.f1.f1 = true ∧ (0 < l.length → hd l = w.f1.f0) ∧ l.length < 16 ∧ asc (match l.getLast? with | some v => v.f0 | none => -1) [(⟨n, w.f1⟩ : S74)] = true
theorem set_at {C : List (List S74)} {a b : Int} (ha : 0 ≤ a ∧ a < 8) (hb : 0 ≤ b ∧ b < 8) (h8 : C.length = 8) (x : List S74) : cAt (C.set a.toNat x) b = if a = b then x else cAt C b := by
  obtain ⟨m, rfl⟩ := Int.eq_ofNat_of_zero_le ha.1
  obtain ⟨n, rfl⟩ := Int.eq_ofNat_of_zero_le hb.1
  by_cases c : m = n
  · subst c
    rw [if_pos rfl, cAt_eq (by simp; omega)]
    simp
  · rw [if_neg (by omega), cAt_eq (by simp; omega), cAt_eq (by omega)]
    simp [List.getElem_set, c]
theorem pv_two (l : List S74) (n : Int) (w : S42) (hv : vchk l = true) : ((pv l n w.f1.f0 w.f1.f1).1 = l ∧ ¬ (pv l n w.f1.f0 w.f1.f1).2 = 0) ∨ (pv l n w.f1.f0 w.f1.f1 = (l ++ [⟨n, w.f1⟩], 0) ∧ Fit n l w) := by
  rcases pv_cases l n w.f1.f0 w.f1.f1 hv with h | ⟨h, ⟨g1, g2, g3⟩, g4⟩
  · exact .inl h
  · exact .inr ⟨h, g1, g2, g3, g4⟩
theorem go_f (k : Nat) (n : Int) (hk : 3000 ≤ k) (hn : 0 ≤ n) : ∀ (ws : List S42) (C : List (List S74)), C.length = 8 → (∀ w ∈ ws, isPar w.f0 = true) → (ws.map (fun w => w.f0)).Nodup → (∀ w ∈ ws, vchk (cAt C w.f0) = true) →
    ∃ r, cmGo k n ws C = some r ∧ (r.2 = 0 → r.1 = ws.foldl (put1 n) C ∧ ∀ w ∈ ws, Fit n (cAt C w.f0) w)
  | [], C, _, _, _, _ => ⟨_, rfl, fun _ => ⟨rfl, by simp⟩⟩
  | w :: r, C, h8, hp, hd, hv => by
    have hw := par_iff.mp (hp w List.mem_cons_self)
    have hvw := hv w List.mem_cons_self
    have hl := (vchk_iff.mp hvw).1
    simp only [cmGo]
    rw [put_f _ n _ _ (by omega) k (by omega)]
    simp only [Option.bind_some]
    rw [List.map_cons, List.nodup_cons] at hd
    rcases pv_two (cAt C w.f0) n w hvw with ⟨h1, h2⟩ | ⟨h1, h2⟩
    · rw [if_neg h2]
      exact ⟨_, rfl, fun h => absurd h h2⟩
    · rw [h1, if_pos rfl]
      have hne : ∀ x ∈ r, cAt (C.set w.f0.toNat (cAt C w.f0 ++ [⟨n, w.f1⟩])) x.f0 = cAt C x.f0 := fun x hx => by
        rw [set_at hw (par_iff.mp (hp x (List.mem_cons_of_mem _ hx))) h8, if_neg]
        exact fun e => hd.1 (e ▸ List.mem_map_of_mem hx)
      obtain ⟨q, hq, hi⟩ := go_f k n hk hn r (C.set w.f0.toNat (cAt C w.f0 ++ [⟨n, w.f1⟩])) (by simpa using h8) (fun x hx => hp x (List.mem_cons_of_mem _ hx)) hd.2 (fun x hx => by rw [hne x hx]; exact hv x (List.mem_cons_of_mem _ hx))
      refine ⟨q, hq, fun h => ?_⟩
      obtain ⟨i1, i2⟩ := hi h
      refine ⟨by rw [i1]; rfl, fun x hx => ?_⟩
      rcases List.mem_cons.mp hx with rfl | hx
      · exact h2
      · have := i2 x hx; rwa [hne x hx] at this
theorem commit_f {C : List (List S74)} {now : Int} {P : List Int} (h : SOk C now P) (st : Int) (l2 : List Int) (l3 : List S42) (h2 : l2.length ≤ 1000) (h3 : l3.length ≤ 1000) (k : Nat) (hk : 3000 ≤ k) :
    ∃ r, store_Commit.f k C now P st l2 l3 = some r ∧ ((∃ e, r = (C, now, P, e) ∧ ¬ e = 0) ∨ (r = (l3.foldl (put1 (now + 1)) C, now + 1, P, 0) ∧ now < 1099511627776 ∧ st ∈ P ∧ (∀ p ∈ l2 ++ l3.map (fun w => w.f0), isPar p = true ∧ nw (cAt C p) st = false) ∧ (l3.map (fun w => w.f0)).Nodup ∧ ∀ w ∈ l3, Fit (now + 1) (cAt C w.f0) w)) := by
  have h8 := h.c8
  have hp := h.pl
  have hlo := h.lo
  have hhi := h.hi
  unfold store_Commit.f
  obtain ⟨a, ha, hai⟩ := named_f l2 l3 h2 h3
  rw [ha]
  simp only [Option.bind_some]
  by_cases c1 : a.2 = true
  · obtain ⟨a1, a2, a3⟩ := hai c1
    rw [if_pos c1, h.check (by omega)]
    simp only [Option.bind_some]
    rw [if_pos trivial]
    by_cases c2 : now = 1099511627776
    · rw [if_pos c2]; exact ⟨_, rfl, .inl ⟨1, rfl, by decide⟩⟩
    · rw [if_neg c2]
      obtain ⟨i, _, _, _, hs⟩ := search_f P st h.ps (by omega) k (by omega)
      rw [hs]
      simp only [Option.bind_some]
      by_cases c3 : st ∈ P
      · rw [if_pos (by simpa using c3), newers_f k C st (by omega) (fun l hl => by have := h.len l hl; omega) a.1 (fun p hp => by rw [h8]; exact par_iff.mp (a2 p hp))]
        simp only [Option.bind_some]
        by_cases c4 : (a.1.any fun p => nw (cAt C p) st) = true
        · rw [if_pos c4]; exact ⟨_, rfl, .inl ⟨181, rfl, by decide⟩⟩
        · rw [if_neg c4, show wrap64 (now + 1) = now + 1 from w64 (by omega) (by omega)]
          have hpar : ∀ w ∈ l3, isPar w.f0 = true := fun w hw => a2 _ (by rw [a1]; exact List.mem_append_right _ (List.mem_map_of_mem hw))
          obtain ⟨q, hq, hqi⟩ := go_f k (now + 1) hk (by omega) l3 C h8 hpar a3 (fun w hw => h.vs _ (cAt_mem (par_iff.mp (hpar w hw)).1 (by rw [h8]; exact (par_iff.mp (hpar w hw)).2)))
          rw [hq]
          simp only [Option.bind_some]
          by_cases c5 : q.2 = 0
          · rw [if_pos c5]
            obtain ⟨q1, q2⟩ := hqi c5
            refine ⟨_, rfl, .inr ⟨by rw [q1], by omega, c3, fun p hp => ?_, a3, q2⟩⟩
            rw [← a1] at hp
            refine ⟨a2 p hp, ?_⟩
            simp only [Bool.not_eq_true, List.any_eq_false] at c4
            simpa using c4 p hp
          · rw [if_neg c5]; exact ⟨_, rfl, .inl ⟨_, rfl, c5⟩⟩
      · rw [if_neg (by simpa using c3)]; exact ⟨_, rfl, .inl ⟨180, rfl, by decide⟩⟩
  · rw [if_neg c1]; exact ⟨_, rfl, .inl ⟨1, rfl, by decide⟩⟩
end Go.Proofs.Ytmolbbebglfhmaa.Plain
