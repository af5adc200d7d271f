/- More on tensors' bytes, in plain words: what is written is read, and only that; no conditions. -/
import Derived.Test.YtfoffgbhfokccaaImageA
import Derived.Test.YtfoffgbhfokccaaAx11
import Derived.Test.YtfoffgbhfokccaaAx7
namespace Go.Proofs.Ytfoffgbhfokccaa.Plain
open Go.RowKit Go.Proofs.Ytfoffgbhfokccaa.A Go.Proofs.YtfoffgbhfokccaaW.PrintWords Go.Proofs.YtfoffgbhfokccaaW.PrintLast Go.Proofs.YtfoffgbhfokccaaW.PrintMore
set_option linter.unusedVariables false
set_option linter.unusedSimpArgs false
/-- The bytes of all of them. -/
def encs (l : List S26) : List Int := l.flatMap fun t => encT t.f0 t.f1
def allT (l : List S26) : Bool := l.all fun t => tchk t.f0 t.f1
theorem iwr_eq : ∀ (l : List S26) (b : List Int), iwr b l = if allT l = true then (b ++ encs l, 0) else ([], 30)
  | [], b => by simp [iwr, allT, encs]
  | t :: r, b => by
    rw [iwr, iwr_eq r]
    cases ht : tchk t.f0 t.f1 with
    | false => simp [allT, ht]
    | true =>
      simp only [if_true]
      have : allT (t :: r) = allT r := by simp [allT, ht]
      rw [this]
      simp [encs]
theorem encs_append (a b : List S26) : encs (a ++ b) = encs a ++ encs b := by simp [encs]
theorem allT_append (a b : List S26) : allT (a ++ b) = (allT a && allT b) := by simp [allT]
theorem encT_le {s d : List Int} (h : tchk s d = true) : (encT s d).length ≤ 1000 := by
  have := tchk_len h
  rw [encT_length]
  omega
theorem encs_le : ∀ {l : List S26}, allT l = true → (encs l).length ≤ 1000 * l.length
  | [], _ => by simp [encs]
  | t :: r, h => by
    simp only [allT, List.all_cons, Bool.and_eq_true] at h
    have h1 := encT_le h.1
    have h2 := encs_le (l := r) h.2
    simp only [encs, List.flatMap_cons, List.length_append, List.length_cons] at h2 ⊢
    omega
/-- Whole numbers of 64 bits. -/
def wide (l : List Int) : Prop := ∀ n ∈ l, -9223372036854775808 ≤ n ∧ n ≤ 9223372036854775807
def wideT (l : List S26) : Prop := ∀ t ∈ l, wide t.f1
theorem octs_encT {s d : List Int} (h : tchk s d = true) : octs (encT s d) := by
  have hl := tchk_len h
  intro x hx
  rcases List.mem_cons.1 hx with rfl | hx
  · omega
  · rcases List.mem_append.1 hx with hx | hx
    · exact octs_all 1 s x hx
    · exact octs_all 8 d x hx
theorem octs_encs : ∀ {l : List S26}, allT l = true → octs (encs l)
  | [], _ => fun x hx => by simp [encs] at hx
  | t :: r, h => by
    simp only [allT, List.all_cons, Bool.and_eq_true] at h
    exact octs_append (octs_encT h.1) (octs_encs (l := r) h.2)
theorem ird_encs : ∀ (l : List S26) (n : Nat), allT l = true → wideT l → (encs l).length ≤ n → ird n (encs l) = (l, 0)
  | [], n, _, _, _ => by cases n <;> simp [ird, encs]
  | t :: r, n, h, hw, hn => by
    simp only [allT, List.all_cons, Bool.and_eq_true] at h
    have e : encs (t :: r) = encT t.f0 t.f1 ++ encs r := by simp [encs]
    have hl : (encs (t :: r)).length = (1 + t.f0.length + 8 * t.f1.length) + (encs r).length := by rw [e, List.length_append, encT_length]
    obtain ⟨n, rfl⟩ : ∃ m, n = m + 1 := ⟨n - 1, by omega⟩
    have ht := itake_enc (encs r) h.1 (hw t List.mem_cons_self)
    have ih := ird_encs r n h.2 (fun u hu => hw u (List.mem_cons_of_mem _ hu)) (by omega)
    rw [ird, e, if_neg (by simp [encT]), ht]
    simp only [if_true]
    rw [ih]
    simp
theorem ird_inv (n : Nat) : ∀ (r : List Int), octs r → r.length ≤ n → (ird n r).2 = 0 → allT (ird n r).1 = true ∧ encs (ird n r).1 = r ∧ wideT (ird n r).1 := by
  induction n with
  | zero =>
    intro r ho hr h
    have : r = [] := List.eq_nil_of_length_eq_zero (by omega)
    subst this
    exact ⟨rfl, rfl, fun t ht => by simp [ird] at ht⟩
  | succ n ih =>
    intro r ho hr h
    rw [ird] at h ⊢
    by_cases h0 : r = []
    · subst h0
      rw [if_pos rfl]
      exact ⟨rfl, rfl, fun t ht => by cases ht⟩
    · rw [if_neg h0] at h ⊢
      by_cases he : (itake r).2.2.2 = 0
      · rw [if_pos he] at h ⊢
        obtain ⟨i1, i2, i3, i4⟩ := itake_inv ho he
        have hl := itake_less ho he
        by_cases h2 : (ird n (itake r).2.2.1).2 = 0
        · rw [if_pos h2]
          obtain ⟨j1, j2, j3⟩ := ih _ i3 (by omega) h2
          refine ⟨by simp only [allT, List.all_cons, Bool.and_eq_true]; exact ⟨i1, j1⟩, ?_, fun t ht => ?_⟩
          · conv => rhs; rw [i2]
            simp only [encs, List.flatMap_cons] at j2 ⊢
            rw [j2]
          · rcases List.mem_cons.1 ht with rfl | ht
            · exact i4
            · exact j3 t ht
        · rw [if_neg h2] at h; exact absurd h h2
      · rw [if_neg he] at h; exact absurd h he
theorem ird_bad {n : Nat} {b : List Int} (h : ¬ (ird n b).2 = 0) : (ird n b).1 = [] := by
  cases n with
  | zero => simp [ird]
  | succ n =>
    rw [ird] at h ⊢
    by_cases h0 : b = []
    · simp [h0]
    · rw [if_neg h0] at h ⊢
      by_cases he : (itake b).2.2.2 = 0
      · rw [if_pos he] at h ⊢
        by_cases h2 : (ird n (itake b).2.2.1).2 = 0
        · rw [if_pos h2] at h; exact absurd rfl h
        · rw [if_neg h2]
      · rw [if_neg he]
theorem ird_small (n : Nat) (b : List Int) (ho : octs b) (hn : b.length ≤ n) : (ird n b).1.length ≤ b.length ∧ ∀ t ∈ (ird n b).1, t.f0.length ≤ 100 ∧ t.f1.length ≤ 100 := by
  by_cases h : (ird n b).2 = 0
  · obtain ⟨h1, h2, _⟩ := ird_inv n b ho hn h
    refine ⟨?_, fun t ht => ?_⟩
    · have key : ∀ l : List S26, l.length ≤ (encs l).length := by
        intro l
        induction l with
        | nil => simp
        | cons t r ih => simp only [encs, List.flatMap_cons, List.length_append, List.length_cons, encT_length] at ih ⊢; omega
      have := key (ird n b).1
      rw [h2] at this
      exact this
    · have := tchk_len (List.all_eq_true.mp h1 t ht)
      omega
  · rw [ird_bad h]
    exact ⟨by simp, fun t ht => by cases ht⟩
theorem itake_small {b : List Int} (ho : octs b) : (itake b).1.length ≤ 3 ∧ (itake b).2.1.length ≤ 64 ∧ (itake b).2.2.1.length ≤ b.length := by
  by_cases h : (itake b).2.2.2 = 0
  · have h1 := tchk_len (itake_inv ho h).1
    have h2 := itake_less ho h
    exact ⟨h1.1, h1.2, by omega⟩
  · rw [itake_err h]; simp
/-! ### alike -/
def sameL : List S26 → List S26 → Bool
  | [], [] => true
  | x :: a, y :: b => (decide (x.f0 = y.f0) && decide (x.f1 = y.f1)) && sameL a b
  | _, _ => false
theorem sameL_iff : ∀ {a b : List S26}, sameL a b = true ↔ a = b
  | [], [] => by simp [sameL]
  | [], y :: b => by simp [sameL]
  | x :: a, [] => by simp [sameL]
  | x :: a, y :: b => by
    simp only [sameL, Bool.and_eq_true, decide_eq_true_eq, sameL_iff (a := a) (b := b), List.cons.injEq]
    constructor
    · rintro ⟨⟨h1, h2⟩, h3⟩
      refine ⟨?_, h3⟩
      cases x; cases y
      simp only at h1 h2
      rw [h1, h2]
    · rintro ⟨rfl, h3⟩
      exact ⟨⟨rfl, rfl⟩, h3⟩
theorem sameL_len {a b : List S26} (h : a.length ≠ b.length) : sameL a b = false := by
  cases hs : sameL a b with
  | false => rfl
  | true => exact absurd (congrArg List.length (sameL_iff.mp hs)) h
theorem same09_l0 (a b : List S26) (hab : a.length = b.length) (M : Nat) (hM : ∀ t ∈ a, t.f0.length ≤ M ∧ t.f1.length ≤ M) (e : Nat) : ∀ (k i : Nat), a.length - i = e → i ≤ a.length → e + 2 * M + 2 ≤ k → k ≤ 9223372036854775806 → a.length ≤ 9223372036854775806 →
    fullerref09_Same.l0 k a b (i : Int) = some (sameL (a.drop i) (b.drop i)) := by
  induction e with
  | zero =>
    intro k i hd hi hk _ _
    obtain ⟨k, rfl⟩ : ∃ q, k = q + 1 := ⟨k - 1, by omega⟩
    rw [fullerref09_Same.l0, if_neg (by omega), List.drop_eq_nil_of_le (by omega), List.drop_eq_nil_of_le (by omega)]
    rfl
  | succ e ih =>
    intro k i hd hi hk hk2 hm
    obtain ⟨k, rfl⟩ : ∃ q, k = q + 1 := ⟨k - 1, by omega⟩
    have hlt : i < a.length := by omega
    have hlt2 : i < b.length := by omega
    have hw : wrap64 ((i : Int) + 1) = ((i + 1 : Nat) : Int) := by rw [w64 (by omega) (by omega)]; omega
    have hb := hM a[i] (List.getElem_mem hlt)
    rw [fullerref09_Same.l0, if_pos (by omega), if_pos (by omega), if_pos (by omega), rdT hlt, rdT hlt2, dropT hlt, dropT hlt2, tsame_iff _ _ _ _ k (by omega) (by omega), sameL]
    simp only [Option.bind_some]
    by_cases h : (decide (a[i].f0 = b[i].f0) && decide (a[i].f1 = b[i].f1)) = true
    · rw [h, if_pos rfl, hw, ih k (i + 1) (by omega) (by omega) (by omega) (by omega) hm, Bool.true_and]
    · rw [if_neg h, Bool.eq_false_iff.mpr h, Bool.false_and]
theorem same09_f (a b : List S26) (M : Nat) (hM : ∀ t ∈ a, t.f0.length ≤ M ∧ t.f1.length ≤ M) (k : Nat) (hk : a.length + 2 * M + 2 ≤ k) (hk2 : k ≤ 9223372036854775806) : fullerref09_Same.f k a b = some (sameL a b) := by
  unfold fullerref09_Same.f
  by_cases h : (a.length : Int) = (b.length : Int)
  · rw [if_pos h]
    have := same09_l0 a b (by omega) M hM a.length k 0 (by omega) (by omega) (by omega) hk2 (by omega)
    simpa using this
  · rw [if_neg h, sameL_len (by omega)]
theorem sameL_refl (a : List S26) : sameL a a = true := sameL_iff.mpr rfl
def few09 (l : List S26) (m : Int) : Bool := (l.all fun t => fewT t.f0 t.f1) && decide ((l.length : Int) ≤ m)
theorem few09_l0 (l : List S26) (m : Int) (hm : l.length ≤ 9223372036854775806) (e : Nat) : ∀ (k i : Nat), l.length - i = e → i ≤ l.length → e + 1 ≤ k →
    fullerref09_Few.l0 k l m (i : Int) = some (((l.drop i).all fun t => fewT t.f0 t.f1) && decide ((l.length : Int) ≤ m)) := by
  induction e with
  | zero =>
    intro k i hd hi hk
    obtain ⟨k, rfl⟩ : ∃ q, k = q + 1 := ⟨k - 1, by omega⟩
    rw [fullerref09_Few.l0, if_neg (by omega), List.drop_eq_nil_of_le (by omega)]
    simp
  | succ e ih =>
    intro k i hd hi hk
    obtain ⟨k, rfl⟩ : ∃ q, k = q + 1 := ⟨k - 1, by omega⟩
    have hlt : i < l.length := by omega
    have hw : wrap64 ((i : Int) + 1) = ((i + 1 : Nat) : Int) := by rw [w64 (by omega) (by omega)]; omega
    rw [fullerref09_Few.l0, if_pos (by omega), if_pos (by omega), rdT hlt, dropT hlt, few_f]
    simp only [Option.bind_some, List.all_cons]
    cases fewT l[i].f0 l[i].f1 with
    | false => simp
    | true => rw [if_pos rfl, hw, ih k (i + 1) (by omega) (by omega) (by omega), Bool.true_and]
theorem few09_f (l : List S26) (m : Int) (hm : l.length ≤ 9223372036854775806) (k : Nat) (hk : l.length + 1 ≤ k) : fullerref09_Few.f k l m = some (few09 l m) := by
  unfold fullerref09_Few.f few09
  have := few09_l0 l m hm l.length k 0 (by omega) (by omega) hk
  simpa using this
theorem few09_iff {l : List S26} {m : Int} (h : few09 l m = true) : (l.length : Int) ≤ m ∧ ∀ t ∈ l, t.f0.length ≤ 100 ∧ t.f1.length ≤ 100 := by
  simp only [few09, Bool.and_eq_true, List.all_eq_true, decide_eq_true_eq, fewT] at h
  exact ⟨h.2, h.1⟩
theorem octs_in {b : List Int} (h : ∀ x ∈ b, (Lit.int .u8 x).wf = true) : octs b := fun x hx => by
  have := h x hx
  simp [Lit.wf, IntKind.min, IntKind.max, IntKind.signed, IntKind.bits] at this
  omega
theorem wide_in {b : List Int} (h : ∀ x ∈ b, (Lit.int .i64 x).wf = true) : wide b := fun x hx => by
  have := h x hx
  simp [Lit.wf, IntKind.min, IntKind.max, IntKind.signed, IntKind.bits] at this
  omega
theorem wideT_in {l : List S26} (h : ∀ x ∈ l, OK26 x) : wideT l := fun t ht => wide_in (h t ht).2.2
/-- Bytes that make the same text are the same. -/
theorem str_inj {a b : List Int} (ha : octs a) (hb : octs b) (h : (strOfNums a).toList = (strOfNums b).toList) : a = b := by
  rw [str_list, str_list] at h
  have key : ∀ l : List Int, octs l → (l.map fun n => UInt8.ofNat n.toNat).map (fun u => (u.toNat : Int)) = l := by
    intro l hl
    rw [List.map_map]
    conv => rhs; rw [← List.map_id l]
    refine List.map_congr_left (fun n hn => ?_)
    have := hl n hn
    simp only [Function.comp, id]
    rw [UInt8.toNat_ofNat_of_lt' (by simp [UInt8.size]; omega)]
    omega
  rw [← key a ha, ← key b hb, h]
end Go.Proofs.Ytfoffgbhfokccaa.Plain
