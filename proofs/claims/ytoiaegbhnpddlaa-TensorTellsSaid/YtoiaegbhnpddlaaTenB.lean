/- What the functions of layer 3 answer, in plain words; no conditions. -/
import Derived.Test.YtoiaegbhnpddlaaTenA
import Derived.Test.YtoiaegbhnpddlaaAx1
import Derived.Test.YtoiaegbhnpddlaaAx2
import Derived.Test.YtoiaegbhnpddlaaAx3
import Derived.Test.YtoiaegbhnpddlaaAx6
import Derived.Test.YtoiaegbhnpddlaaAx7
namespace Go.Proofs.Ytoiaegbhnpddlaa.Plain
open Go.RowKit Go.Proofs.Ytoiaegbhnpddlaa.A Go.Proofs.YtoiaegbhnpddlaaW.PrintWords Go.Proofs.YtoiaegbhnpddlaaW.PrintLast Go.Proofs.YtoiaegbhnpddlaaW.PrintMore
set_option linter.unusedVariables false
set_option linter.unusedSimpArgs false

def fullT (s : List Int) (n : Int) : List Int × List Int × Int := if chk s = true then (s, List.replicate (siz s).toNat n, 0) else ([], [], 20)
theorem tfull_f (s : List Int) (n : Int) (k : Nat) (hk : 5 ≤ k) : tensor_Full.f k s n = some (fullT s n) := by
  unfold tensor_Full.f fullT
  rw [check_f s k hk]
  simp only [Option.bind_some]
  by_cases h : chk s = true
  · rw [if_pos h, if_pos h, size_f s k hk]
    simp only [Option.bind_some]
    have := siz_le s
    have := siz_nonneg s
    have := chk_len h
    rw [if_pos ⟨by omega, by omega, by omega⟩]
  · rw [if_neg h, if_neg h]
theorem tchk_iff {s d : List Int} : tchk s d = true ↔ chk s = true ∧ (d.length : Int) = siz s := by simp [tchk]
theorem siz_prod {s : List Int} (h : chk s = true) : siz s = prod s := by simp [siz, h]
theorem siz_pos {s : List Int} (h : chk s = true) : 1 ≤ siz s := by rw [siz_prod h]; exact prod_pos fun x hx => (chk_sides h x hx).1
theorem plc_lt {s x : List Int} (h : chk s = true) (ho : oki s x = true) : 0 ≤ plc s x ∧ plc s x < siz s := by
  rw [siz_prod h]
  exact (idx_plc (fun c hc => (chk_sides h c hc).1) ho).2
def atT (s d x : List Int) : Int × Int := if tchk s d = true then (if oki s x = true then (rd d (plc s x), 0) else (0, 20)) else (0, 30)
theorem tat_f (s d x : List Int) (k : Nat) (hk : 9 ≤ k) : tensor_At.f k s d x = some (atT s d x) := by
  unfold tensor_At.f atT
  rw [tcheck_f s d k (by omega)]
  simp only [Option.bind_some]
  by_cases h : tchk s d = true
  · rw [if_pos h, if_pos h, place_f s x k hk]
    obtain ⟨hc, hl⟩ := tchk_iff.mp h
    simp only [Option.bind_some]
    by_cases ho : oki s x = true
    · rw [show pl s x = (plc s x, 0) from if_pos ⟨hc, ho⟩, if_pos ho]
      obtain ⟨p0, p1⟩ := plc_lt hc ho
      simp only [if_true]
      rw [if_pos p0, if_pos (by omega)]
    · rw [show pl s x = (0, 20) from if_neg (fun e => ho e.2), if_neg ho]
      simp
  · rw [if_neg h, if_neg h]
theorem atT_ok {s d x : List Int} : (atT s d x).2 = 0 ↔ tchk s d = true ∧ oki s x = true := by
  unfold atT
  split
  · split <;> simp_all
  · simp_all
def withT (s d x : List Int) (n : Int) : List Int × List Int × Int := if (atT s d x).2 = 0 then (s, d.set (plc s x).toNat n, 0) else ([], [], (atT s d x).2)
theorem twith_f (s d x : List Int) (n : Int) (k : Nat) (hk : 9 ≤ k) : tensor_With.f k s d x n = some (withT s d x n) := by
  unfold tensor_With.f withT
  rw [tat_f s d x k hk]
  simp only [Option.bind_some]
  by_cases h : (atT s d x).2 = 0
  · rw [if_pos h, if_pos h, place_f s x k hk]
    obtain ⟨ht, ho⟩ := atT_ok.mp h
    obtain ⟨hc, hl⟩ := tchk_iff.mp ht
    obtain ⟨p0, p1⟩ := plc_lt hc ho
    have := siz_le s
    have := chk_len hc
    simp only [Option.bind_some]
    rw [show pl s x = (plc s x, 0) from if_pos ⟨hc, ho⟩, if_pos ⟨by omega, by omega, p0, by simp only; omega⟩]
  · rw [if_neg h, if_neg h]

/-! ### where a place comes from -/
def dot : List Int → List Int → Int
  | a :: x, b :: y => a * b + dot x y
  | _, _ => 0
/-- The steps of a shape, its sides told from the last one on. -/
def stp : List Int → Int → List Int
  | [], _ => []
  | c :: r, a => (if 1 < c then a else 0) :: stp r (a * c)
theorem stp_len : ∀ (r : List Int) (a : Int), (stp r a).length = r.length
  | [], _ => rfl
  | c :: r, a => by simp [stp, stp_len r]
theorem dot_stp : ∀ (r y : List Int) (a : Int), (∀ c ∈ r, 1 ≤ c) → dot y (stp r a) = a * frr r y
  | [], y, a, _ => by cases y <;> simp [stp, dot, frr, own_nil, plr]
  | c :: r, [], a, _ => by simp [dot, frr, own, plr]
  | c :: r, x :: y, a, h => by
    have hc := h c (by simp)
    have ih := dot_stp r y (a * c) (fun c hc => h c (by simp [hc]))
    simp only [stp, dot, ih, frr, own, plr]
    rw [Int.mul_add, ← frr]
    by_cases h1 : c = 1
    · subst h1
      simp
    · rw [if_pos (by omega), if_neg h1, Int.mul_comm x a, Int.mul_assoc, Int.mul_comm c]
      omega
theorem dot_app : ∀ (x y : List Int) (a b : Int), x.length = y.length → dot (x ++ [a]) (y ++ [b]) = dot x y + a * b
  | [], [], a, b, _ => by simp [dot]
  | [], _ :: _, _, _, h => by simp at h
  | _ :: _, [], _, _, h => by simp at h
  | u :: x, v :: y, a, b, h => by simp only [List.cons_append, dot]; rw [dot_app x y a b (by simpa using h)]; omega
theorem dot_rev : ∀ (x y : List Int), x.length = y.length → dot x.reverse y.reverse = dot x y
  | [], [], _ => rfl
  | [], _ :: _, h => by simp at h
  | _ :: _, [], h => by simp at h
  | u :: x, v :: y, h => by
    have h' : x.length = y.length := by simpa using h
    rw [List.reverse_cons, List.reverse_cons, dot_app _ _ _ _ (by simpa using h'), dot_rev x y h']
    simp only [dot]
    omega
theorem dot_zeros : ∀ (x : List Int) (n : Nat), dot x (List.replicate n 0) = 0
  | [], n => by cases n <;> rfl
  | _ :: _, 0 => rfl
  | a :: x, n + 1 => by simp [List.replicate_succ, dot, dot_zeros x n]
theorem dot_tail : ∀ (x y : List Int) (n : Nat), dot x (y ++ List.replicate n 0) = dot x y
  | x, [], n => by rw [List.nil_append, dot_zeros]; cases x <;> rfl
  | [], _ :: _, _ => rfl
  | a :: x, b :: y, n => by simp only [List.cons_append, dot]; rw [dot_tail x y n]
theorem fat_mod : ∀ (x st : List Int) (a : Int), ∃ q : Int, fat x st a = a + dot x st + q * 18446744073709551616
  | [], _, a => ⟨0, by simp [fat, dot]⟩
  | _ :: _, [], a => ⟨0, by simp [fat, dot]⟩
  | n :: x, c :: st, a => by
    obtain ⟨q, hq⟩ := fat_mod x st (wrap64 (a + wrap64 (n * c)))
    have w : ∀ z : Int, ∃ q : Int, wrap64 z = z + q * 18446744073709551616 := fun z => by
      refine ⟨(wrap64 z - z) / 18446744073709551616, ?_⟩
      unfold wrap64
      omega
    obtain ⟨q1, h1⟩ := w (n * c)
    obtain ⟨q2, h2⟩ := w (a + wrap64 (n * c))
    refine ⟨q + q1 + q2, ?_⟩
    simp only [fat, dot]
    rw [hq, h2, h1]
    omega
theorem wrap_rng (z : Int) : -9223372036854775808 ≤ wrap64 z ∧ wrap64 z ≤ 9223372036854775807 := by unfold wrap64; omega
theorem fat_rng : ∀ (x st : List Int) (a : Int), -9223372036854775808 ≤ a → a ≤ 9223372036854775807 → -9223372036854775808 ≤ fat x st a ∧ fat x st a ≤ 9223372036854775807
  | [], _, a, h, h' => ⟨h, h'⟩
  | _ :: _, [], a, h, h' => ⟨h, h'⟩
  | n :: x, c :: st, a, _, _ => by
    simp only [fat]
    exact fat_rng x st _ (wrap_rng _).1 (wrap_rng _).2
theorem fat_dot {x st : List Int} (h : -9223372036854775808 ≤ dot x st) (h' : dot x st ≤ 9223372036854775807) : fat x st 0 = dot x st := by
  obtain ⟨q, hq⟩ := fat_mod x st 0
  have := fat_rng x st 0 (by omega) (by omega)
  omega
theorem prod_take {s : List Int} (hs : ∀ c ∈ s, 1 ≤ c) (i : Nat) (hi : i < s.length) : prod (s.take (i + 1)) = prod (s.take i) * rd s (i : Int) := by
  rw [List.take_succ_eq_append_getElem hi, prod_append, rd_lt hi]
  simp [prod]
theorem fsteps_f {s : List Int} (hs : ∀ c ∈ s, 1 ≤ c) (off : Nat) : ∀ (i : Nat) (suf : List Int) (a : Int), i ≤ s.length → 1 ≤ a → a * prod (s.take i) ≤ 64 →
    (fsteps s off i (List.replicate (off + i) 0 ++ suf, a)).1 = List.replicate off 0 ++ (stp (s.take i).reverse a).reverse ++ suf
  | 0, suf, a, _, _, _ => by simp [fsteps, stp]
  | i + 1, suf, a, hi, ha, hb => by
    have hi' : i < s.length := by omega
    have hsi := hs s[i] (by simp)
    have hpi : 1 ≤ prod (s.take i) := prod_pos fun c hc => hs c (List.mem_of_mem_take hc)
    have hr : rd s (i : Int) = s[i] := rd_lt hi'
    rw [prod_take hs i hi', hr] at hb
    have hb2 : (a * s[i]) * prod (s.take i) ≤ 64 := by rw [Int.mul_assoc, Int.mul_comm s[i]]; exact hb
    have h1 : 1 ≤ a * s[i] := (mulb ha (Int.le_refl _) hsi (Int.le_refl _)).1
    have h2 : a * s[i] ≤ 64 := by
      have := Int.mul_le_mul_of_nonneg_left hpi (show 0 ≤ a * s[i] by omega)
      omega
    have e1 : (if 1 < rd s (i : Int) then (List.replicate (off + (i + 1)) 0 ++ suf).set (off + i) a else List.replicate (off + (i + 1)) 0 ++ suf) = List.replicate (off + i) 0 ++ ((if 1 < s[i] then a else 0) :: suf) := by
      rw [hr, show off + (i + 1) = (off + i) + 1 by omega, List.replicate_succ', List.append_assoc]
      split
      · rw [List.set_append_right _ _ (by simp)]
        simp
      · rfl
    simp only [fsteps]
    rw [e1, hr, w64 (by omega) (by omega), fsteps_f hs off i _ _ (by omega) h1 hb2, List.take_succ_eq_append_getElem hi', List.reverse_append]
    simp [stp]
theorem fplace_f {s g : List Int} (h : fits s g = true) {p : Int} (h0 : 0 ≤ p) (h1 : p < siz g) (k : Nat) (hk : 8 ≤ k) : fplace k s g p = some (fr s g p) := by
  obtain ⟨hs, hg, hl, -⟩ := fits_sd.mp h
  have hs1 : ∀ c ∈ s, 1 ≤ c := fun c hc => (chk_sides hs c hc).1
  have hp64 : 1 * prod (s.take s.length) ≤ 64 := by
    rw [List.take_length, Int.one_mul]
    exact (chk_iff.mp hs).2.2
  unfold fplace
  rw [index_f g p k hk]
  simp only [Option.bind_some]
  rw [show ix g p = (idx g p, 0) from if_pos ⟨h0, h1⟩]
  simp only
  rw [if_pos (by rw [idx_length]; exact Nat.le_refl _)]
  congr 1
  have e := fsteps_f hs1 (g.length - s.length) s.length [] 1 (Nat.le_refl _) (by omega) hp64
  rw [List.take_length, List.append_nil, List.append_nil, show g.length - s.length + s.length = g.length by omega] at e
  rw [e]
  have hd : dot (idx g p) (List.replicate (g.length - s.length) 0 ++ (stp s.reverse 1).reverse) = fr s g p := by
    rw [← dot_rev _ _ (by simp [idx_length, stp_len]; omega), List.reverse_append, List.reverse_reverse, List.reverse_replicate, dot_tail, dot_stp _ _ _ (by simpa using hs1)]
    simp [idx, fr]
  obtain ⟨f0, f1⟩ := fr_lt h h0 h1
  have := siz_le s
  rw [fat_dot (by rw [hd]; omega) (by rw [hd]; omega), hd]
theorem fplaces_f {s g : List Int} (h : fits s g = true) (k : Nat) (hk : 8 ≤ k) : ∀ (m p : Nat), ((p + m : Nat) : Int) ≤ siz g → fplaces k s g m p = some ((List.range' p m).map fun i : Nat => fr s g (i : Int))
  | 0, _, _ => rfl
  | m + 1, p, hp => by
    simp only [fplaces]
    rw [fplace_f h (by omega) (by omega) k hk, fplaces_f h k hk m (p + 1) (by omega)]
    rfl
def spreadT (s d g : List Int) : List Int × List Int × Int :=
  if tchk s d = true then (if fits s g = true then (g, (List.range' 0 (siz g).toNat).map (fun i : Nat => rd d (fr s g (i : Int))), 0) else ([], [], 20)) else ([], [], 30)
theorem tspread_f (s d g : List Int) (k : Nat) (hk : 20 ≤ k) : tensor_Spread.f k s d g = some (spreadT s d g) := by
  unfold tensor_Spread.f spreadT
  rw [tcheck_f s d k (by omega)]
  simp only [Option.bind_some]
  by_cases ht : tchk s d = true
  · rw [if_pos ht, if_pos ht, fits_f s g k hk]
    obtain ⟨hc, hl⟩ := tchk_iff.mp ht
    simp only [Option.bind_some]
    by_cases hf : fits s g = true
    · obtain ⟨-, hg, hle, -⟩ := fits_sd.mp hf
      have := siz_le g
      have := siz_pos hg
      have := chk_len hg
      rw [if_pos hf, if_pos hf, size_f g k (by omega), tfull_f g 0 k (by omega)]
      simp only [Option.bind_some, fullT]
      rw [if_pos hg, if_pos ⟨rfl, by omega, by simp, by omega, by omega, hle⟩, fplaces_f hf k (by omega) _ 0 (by omega)]
      simp only [Option.bind_some]
      rw [if_pos, List.map_map]
      · rfl
      · rw [List.all_eq_true]
        intro x hx
        obtain ⟨i, hi, rfl⟩ := List.mem_map.mp hx
        have hi' := (List.mem_range'_1.mp hi).2
        have := fr_lt hf (p := (i : Int)) (by omega) (by omega)
        simp only [decide_eq_true_eq]
        omega
    · rw [if_neg hf, if_neg hf]
  · rw [if_neg ht, if_neg ht]
/-- What a fold comes to. -/
def foldD (s d t : List Int) : List Int × Int := addF (fun i : Nat => fr t s (i : Int)) (fun i => rd d (i : Int)) (siz s).toNat 0 (List.replicate (siz t).toNat 0)
def foldT (s d t : List Int) : List Int × List Int × Int :=
  if tchk s d = true then (if fits t s = true then (if (foldD s d t).2 = 0 then (t, (foldD s d t).1, 0) else ([], [], (foldD s d t).2)) else ([], [], 20)) else ([], [], 30)
theorem inw_eq {v : Int} : inw v = if -9223372036854775808 ≤ v ∧ v ≤ 9223372036854775807 then (v, 0) else (0, 10) := rfl
theorem addR_f {a b : Int} (ha : -9223372036854775808 ≤ a) (ha' : a ≤ 9223372036854775807) (hb : -9223372036854775808 ≤ b) (hb' : b ≤ 9223372036854775807) : addR a b = inw (a + b) := by
  unfold addR
  rw [add_f ha ha' hb hb']
  rfl
def in64 (l : List Int) : Prop := ∀ x ∈ l, -9223372036854775808 ≤ x ∧ x ≤ 9223372036854775807
theorem in64_rd {l : List Int} (h : in64 l) (i : Int) : -9223372036854775808 ≤ rd l i ∧ rd l i ≤ 9223372036854775807 := by
  unfold rd
  by_cases hi : i.toNat < l.length
  · rw [getD_lt _ hi]
    exact h _ (List.getElem_mem hi)
  · rw [List.getD_eq_getElem?_getD, List.getElem?_eq_none (by omega)]
    simp
theorem in64_set {l : List Int} (h : in64 l) (i : Nat) {x : Int} (hx : -9223372036854775808 ≤ x ∧ x ≤ 9223372036854775807) : in64 (l.set i x) := fun y hy => by
  rcases List.mem_or_eq_of_mem_set hy with h1 | h1
  · exact h _ h1
  · subst h1; exact hx
theorem fold_fin {α : Type} {N : Nat} (f : α → Fin N → α) (g : α → Nat → α) (h : ∀ a (x : Fin N), f a x = g a x.val) (a : α) : (List.finRange N).foldl f a = (List.range' 0 N).foldl g a := by
  have e : (List.finRange N).map Fin.val = List.range' 0 N := by
    apply List.ext_getElem
    · simp
    · intro i h1 h2
      simp
  rw [← e, List.foldl_map]
  congr 1
  funext a x
  exact h a x
/-- A round of a fold, its place a number. -/
def foR (l ats : List Int) (st : List Int × Int) (i : Nat) : List Int × Int :=
  if st.2 = 0 then (if (addR (rd st.1 (rd ats (i : Int))) (rd l (i : Int))).2 = 0 then (st.1.set (rd ats (i : Int)).toNat (addR (rd st.1 (rd ats (i : Int))) (rd l (i : Int))).1, 0) else (st.1, (addR (rd st.1 (rd ats (i : Int))) (rd l (i : Int))).2)) else st
theorem foR_stick {l ats : List Int} : ∀ (xs : List Nat) (st : List Int × Int), st.2 ≠ 0 → xs.foldl (foR l ats) st = st
  | [], _, _ => rfl
  | x :: xs, st, h => by rw [List.foldl_cons, show foR l ats st x = st from if_neg h, foR_stick xs st h]
theorem foR_f {l ats : List Int} (hl : in64 l) {at_ : Nat → Int} : ∀ (m p : Nat) (st : List Int), in64 st → (∀ i, p ≤ i → i < p + m → rd ats (i : Int) = at_ i) →
    (List.range' p m).foldl (foR l ats) (st, 0) = addF at_ (fun i => rd l (i : Int)) m p st
  | 0, _, _, _, _ => rfl
  | m + 1, p, st, hst, ha => by
    have hp := ha p (Nat.le_refl _) (by omega)
    have b1 := in64_rd hst (at_ p)
    have b2 := in64_rd hl (p : Int)
    rw [List.range'_succ, List.foldl_cons]
    simp only [foR, addF, if_true]
    rw [hp, addR_f b1.1 b1.2 b2.1 b2.2, inw_eq]
    by_cases hc : -9223372036854775808 ≤ rd st (at_ p) + rd l (p : Int) ∧ rd st (at_ p) + rd l (p : Int) ≤ 9223372036854775807
    · rw [if_pos hc, if_pos hc]
      simp only [if_true]
      exact foR_f hl m (p + 1) _ (in64_set hst _ hc) (fun i h1 h2 => ha i (by omega) (by omega))
    · rw [if_neg hc, if_neg hc]
      simp only
      rw [if_neg (by omega)]
      exact foR_stick _ _ (by simp)
theorem tfold_f (s d t : List Int) (hd : in64 d) (k : Nat) (hk : 20 ≤ k) : tensor_Fold.f k s d t = some (foldT s d t) := by
  unfold tensor_Fold.f foldT
  rw [tcheck_f s d k (by omega)]
  simp only [Option.bind_some]
  by_cases ht : tchk s d = true
  · rw [if_pos ht, if_pos ht, fits_f t s k hk]
    obtain ⟨hc, hl⟩ := tchk_iff.mp ht
    simp only [Option.bind_some]
    by_cases hf : fits t s = true
    · obtain ⟨hg, -, hle, -⟩ := fits_sd.mp hf
      have := siz_le s
      have := siz_le t
      have := siz_pos hc
      have := siz_pos hg
      have := chk_len hc
      rw [if_pos hf, if_pos hf, size_f s k (by omega), tfull_f t 0 k (by omega)]
      simp only [Option.bind_some, fullT]
      rw [if_pos hg, if_pos ⟨rfl, by omega, by omega, by omega, by omega, hle, by simp; omega⟩, fplaces_f hf k (by omega) _ 0 (by omega)]
      simp only [Option.bind_some]
      have e : foAll d ((List.range' 0 (siz s).toNat).map fun i : Nat => fr t s (i : Int)) (List.replicate (siz t).toNat 0) (siz s).toNat = foldD s d t := by
        unfold foAll
        rw [fold_fin (foPut d ((List.range' 0 (siz s).toNat).map fun i : Nat => fr t s (i : Int)) (siz s).toNat) (foR d ((List.range' 0 (siz s).toNat).map fun i : Nat => fr t s (i : Int))) (fun _ _ => rfl), foR_f hd (at_ := fun i : Nat => fr t s (i : Int))]
        · rfl
        · intro x hx
          rw [(List.mem_replicate.mp hx).2]
          omega
        · intro i _ hi
          rw [rd_lt (by simp; omega)]
          simp
      rw [if_pos, e]
      · split <;> rfl
      rw [List.all_eq_true]
      intro x hx
      obtain ⟨i, hi, rfl⟩ := List.mem_map.mp hx
      have hi' := (List.mem_range'_1.mp hi).2
      have := fr_lt hf (p := (i : Int)) (by omega) (by omega)
      simp only [decide_eq_true_eq, List.length_replicate]
      omega
    · rw [if_neg hf, if_neg hf]
  · rw [if_neg ht, if_neg ht]
theorem own_zip : ∀ (r y : List Int), own r y = List.zipWith (fun c x => if c = 1 then 0 else x) r y
  | [], y => by rw [own_nil]; rfl
  | _ :: _, [] => rfl
  | c :: r, x :: y => by simp [own, own_zip r y]
theorem own_take : ∀ (r y : List Int), own r (y.take r.length) = own r y
  | [], y => by rw [own_nil, own_nil]
  | _ :: _, [] => rfl
  | c :: r, x :: y => by simp [own, own_take r y]
theorem foldD_len (s d t : List Int) : (foldD s d t).1.length = (siz t).toNat := by
  unfold foldD
  rw [addF_len]
  simp
theorem fullT_len (s : List Int) (n : Int) : (fullT s n).1.length ≤ 3 ∧ (fullT s n).2.1.length ≤ 64 := by
  unfold fullT
  split
  · rename_i h
    have := siz_le s
    have := chk_len h
    exact ⟨this, by simp; omega⟩
  · simp
theorem withT_len (s d x : List Int) (n : Int) : (withT s d x n).1.length ≤ 3 ∧ (withT s d x n).2.1.length ≤ 64 := by
  unfold withT
  split
  · rename_i h
    have := tchk_len (atT_ok.mp h).1
    simpa using this
  · simp
theorem spreadT_len (s d g : List Int) : (spreadT s d g).1.length ≤ 3 ∧ (spreadT s d g).2.1.length ≤ 64 := by
  unfold spreadT
  split
  · split
    · rename_i h
      have hg := (fits_sd.mp h).2.1
      have := siz_le g
      exact ⟨chk_len hg, by simp; omega⟩
    · simp
  · simp
theorem foldT_len (s d t : List Int) : (foldT s d t).1.length ≤ 3 ∧ (foldT s d t).2.1.length ≤ 64 := by
  unfold foldT
  split
  · split
    · split
      · rename_i h _
        have ht := (fits_sd.mp h).1
        have := siz_le t
        exact ⟨chk_len ht, by simp only [foldD_len]; omega⟩
      · simp
    · simp
  · simp
end Go.Proofs.Ytoiaegbhnpddlaa.Plain
