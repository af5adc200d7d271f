/- Graphs as bytes, in plain words: what they are written as, what bytes are read as; no conditions. -/
import Derived.Test.YtjcgadfmhfhbgaaGraphA
import Derived.Test.YtjcgadfmhfhbgaaImageA
import Derived.Test.YtjcgadfmhfhbgaaAx4
import Derived.Test.YtjcgadfmhfhbgaaAx6
import Derived.Test.YtjcgadfmhfhbgaaAx8
import Derived.Test.YtjcgadfmhfhbgaaAx15
import Derived.Test.YtjcgadfmhfhbgaaAx12
namespace Go.Proofs.Ytjcgadfmhfhbgaa.Plain
open Go.RowKit Go.Proofs.Ytjcgadfmhfhbgaa.A Go.Proofs.YtjcgadfmhfhbgaaW.PrintWords Go.Proofs.YtjcgadfmhfhbgaaW.PrintLast Go.Proofs.YtjcgadfmhfhbgaaW.PrintMore
set_option linter.unusedVariables false
set_option linter.unusedSimpArgs false
def encN (n : S48) : List Int := n.f0 :: (((n.f1.length : Int) :: pkAll 1 n.f1) ++ ((n.f2.length : Int) :: pkAll 8 n.f2))
def encNs (l : List S48) : List Int := l.flatMap encN
def encG (l : List S48) : List Int := (l.length : Int) :: encNs l
def wideL (l : List Int) : Prop := ∀ n ∈ l, -9223372036854775808 ≤ n ∧ n ≤ 9223372036854775807
def wideG (l : List S48) : Prop := ∀ n ∈ l, wideL n.f2
def putN (n : S48) : Prop := (0 ≤ n.f0 ∧ n.f0 ≤ 255) ∧ (n.f1.length ≤ 255 ∧ ∀ a ∈ n.f1, 0 ≤ a ∧ a ≤ 255) ∧ n.f2.length ≤ 255 ∧ wideL n.f2
theorem bytes1 {a : Int} (h : 0 ≤ a ∧ a ≤ 255) : pkBytes 1 a = [a] := by simp [pkBytes]; omega
theorem may1 {a : Int} (h : 0 ≤ a ∧ a ≤ 255) : pkMay a 1 = true := by simp [pkMay]; omega
theorem all1_len (l : List Int) : (pkAll 1 l).length = l.length := by rw [all_length]; simp
theorem encN_len (n : S48) : (encN n).length = 3 + n.f1.length + 8 * n.f2.length := by
  simp only [encN, List.length_cons, List.length_append, all_length]
  simp
  omega
theorem encNs_cons (n : S48) (l : List S48) : encNs (n :: l) = encN n ++ encNs l := rfl
def rdNode (b : List Int) : Option (S48 × List Int) :=
  if (pkTake b 1).2.2 = 0 then (if (pkTakeList (pkTake b 1).2.1 1).2.2 = 0 then (if (pkTakeList (pkTakeList (pkTake b 1).2.1 1).2.1 8).2.2 = 0 then
    some (⟨(pkTake b 1).1, (pkTakeList (pkTake b 1).2.1 1).1, (pkTakeList (pkTakeList (pkTake b 1).2.1 1).2.1 8).1⟩, (pkTakeList (pkTakeList (pkTake b 1).2.1 1).2.1 8).2.1) else none) else none) else none
theorem octs_cons {c : Int} {r : List Int} (h : octs (c :: r)) : (0 ≤ c ∧ c < 256) ∧ octs r := ⟨h c List.mem_cons_self, fun x hx => h x (List.mem_cons_of_mem _ hx)⟩
theorem take1 {b : List Int} (ho : octs b) : ((pkTake b 1).2.2 = 0 ∧ b = (pkTake b 1).1 :: (pkTake b 1).2.1 ∧ 0 ≤ (pkTake b 1).1 ∧ (pkTake b 1).1 ≤ 255) ∨ (b = [] ∧ pkTake b 1 = (0, [], 40)) := by
  cases b with
  | nil => exact .inr ⟨rfl, by unfold pkTake; rw [if_neg (by simp)]⟩
  | cons c r =>
    have hc := (octs_cons ho).1
    have e : pkTake (c :: r) 1 = (c, r, 0) := by
      unfold pkTake
      rw [if_pos ⟨rfl, by simp; omega⟩]
      show (tkl 0 ((c :: r).take 1), r, (0 : Int)) = _
      rw [tkl_head hc]
    rw [e]
    exact .inl ⟨rfl, rfl, hc.1, by omega⟩
theorem tl_rng1 (m : Nat) : ∀ (r : List Int) (p : List Int × List Int), octs r → pkTL 1 m r = some p → ∀ n ∈ p.1, 0 ≤ n ∧ n ≤ 255 := by
  induction m with
  | zero => intro r p _ h; simp only [pkTL, Option.some.injEq] at h; subst h; intro n hn; cases hn
  | succ m ih =>
    intro r p ho h
    rw [pkTL] at h
    split at h
    · rename_i h1
      cases r with
      | nil => simp at h1
      | cons c r =>
        cases hq : pkTL 1 m ((c :: r).drop (1 : Int).toNat) with
        | none => rw [hq] at h; cases h
        | some q =>
          rw [hq] at h
          simp only [Option.map_some, Option.some.injEq] at h
          subst h
          intro n hn
          rcases List.mem_cons.1 hn with rfl | hn
          · have hc := (octs_cons ho).1
            rw [show (1 : Int).toNat = 1 from rfl, tkl_head hc]
            omega
          · exact ih _ q (octs_drop ho _) hq n hn
    · cases h
theorem tlist1 {b : List Int} (ho : octs b) (h : (pkTakeList b 1).2.2 = 0) : b = (((pkTakeList b 1).1.length : Int) :: pkAll 1 (pkTakeList b 1).1) ++ (pkTakeList b 1).2.1 ∧ octs (pkTakeList b 1).2.1 ∧ (pkTakeList b 1).1.length ≤ 255 ∧ ∀ a ∈ (pkTakeList b 1).1, 0 ≤ a ∧ a ≤ 255 := by
  revert h
  unfold pkTakeList
  split
  · rename_i hc
    cases b with
    | nil => simp at hc
    | cons c r =>
      have hcb := (octs_cons ho).1
      cases hp : pkTL 1 (tkl 0 ((c :: r).take 1)).toNat ((c :: r).drop 1) with
      | none => intro h; simp at h
      | some p =>
        intro _
        have h1 := tl_inv1 _ _ p (octs_drop ho 1) hp
        have h2 := (tl_len 1 _ _ p hp).2
        have h3 := tl_rng1 _ _ p (octs_drop ho 1) hp
        rw [tkl_head hcb] at h2
        refine ⟨?_, h1.2, show p.1.length ≤ 255 by omega, h3⟩
        show c :: r = _
        have e : r = pkAll 1 p.1 ++ p.2 := h1.1
        rw [h2, Int.toNat_of_nonneg hcb.1]
        exact congrArg (c :: ·) e
  · intro h; simp at h
theorem tlist8 {b : List Int} (ho : octs b) (h : (pkTakeList b 8).2.2 = 0) : b = (((pkTakeList b 8).1.length : Int) :: pkAll 8 (pkTakeList b 8).1) ++ (pkTakeList b 8).2.1 ∧ octs (pkTakeList b 8).2.1 ∧ (pkTakeList b 8).1.length ≤ 255 ∧ wideL (pkTakeList b 8).1 := by
  revert h
  unfold pkTakeList
  split
  · rename_i hc
    cases b with
    | nil => simp at hc
    | cons c r =>
      have hcb := (octs_cons ho).1
      cases hp : pkTL 8 (tkl 0 ((c :: r).take 1)).toNat ((c :: r).drop 1) with
      | none => intro h; simp at h
      | some p =>
        intro _
        have h1 := tl_inv8 _ _ p (octs_drop ho 1) hp
        have h2 := (tl_len 8 _ _ p hp).2
        rw [tkl_head hcb] at h2
        refine ⟨?_, h1.2.1, show p.1.length ≤ 255 by omega, h1.2.2⟩
        show c :: r = _
        have e : r = pkAll 8 p.1 ++ p.2 := h1.1
        rw [h2, Int.toNat_of_nonneg hcb.1]
        exact congrArg (c :: ·) e
  · intro h; simp at h
theorem tlist_put1 {s t : List Int} (hl : s.length ≤ 255) (h : ∀ a ∈ s, 0 ≤ a ∧ a ≤ 255) : pkTakeList ((((s.length : Int)) :: pkAll 1 s) ++ t) 1 = (s, t, 0) := by
  unfold pkTakeList
  rw [if_pos ⟨rfl, by simp⟩]
  have e : tkl 0 (((((s.length : Int)) :: pkAll 1 s) ++ t).take 1) = (s.length : Int) := by
    rw [List.cons_append]
    exact tkl_head ⟨by omega, by omega⟩
  rw [e, Int.toNat_natCast]
  show (match pkTL 1 s.length (pkAll 1 s ++ t) with | some p => (p.1, p.2, (0 : Int)) | none => ([], [], 40)) = _
  rw [tl_all 1 t s (fun n hn => ⟨may1 (h n hn), by have := h n hn; omega, by have := h n hn; omega⟩)]
theorem tlist_put8 {s t : List Int} (hl : s.length ≤ 255) (h : wideL s) : pkTakeList ((((s.length : Int)) :: pkAll 8 s) ++ t) 8 = (s, t, 0) := by
  unfold pkTakeList
  rw [if_pos ⟨rfl, by simp⟩]
  have e : tkl 0 (((((s.length : Int)) :: pkAll 8 s) ++ t).take 1) = (s.length : Int) := by
    rw [List.cons_append]
    exact tkl_head ⟨by omega, by omega⟩
  rw [e, Int.toNat_natCast]
  show (match pkTL 8 s.length (pkAll 8 s ++ t) with | some p => (p.1, p.2, (0 : Int)) | none => ([], [], 40)) = _
  rw [tl_all 8 t s (fun n hn => ⟨may8 n, (h n hn).1, (h n hn).2⟩)]
theorem rdNode_put {n : S48} (h : putN n) (t : List Int) : rdNode (encN n ++ t) = some (n, t) := by
  obtain ⟨h0, ⟨h1, h2⟩, h3, h4⟩ := h
  have e0 : pkTake (encN n ++ t) 1 = (n.f0, ((((n.f1.length : Int) :: pkAll 1 n.f1) ++ ((n.f2.length : Int) :: pkAll 8 n.f2)) ++ t), 0) := by
    have := take_one n.f0 1 ((((n.f1.length : Int) :: pkAll 1 n.f1) ++ ((n.f2.length : Int) :: pkAll 8 n.f2)) ++ t) (may1 h0) (by omega) (by omega)
    rw [show (1 : Int).toNat = 1 from rfl, bytes1 h0] at this
    exact this
  unfold rdNode
  rw [e0]
  simp only [if_true]
  rw [List.append_assoc, tlist_put1 h1 h2]
  simp only [if_true]
  rw [tlist_put8 h3 h4]
  simp
theorem rdNode_inv {b : List Int} (ho : octs b) {n : S48} {r : List Int} (h : rdNode b = some (n, r)) : b = encN n ++ r ∧ octs r ∧ putN n := by
  unfold rdNode at h
  rcases take1 ho with ⟨e1, e2, e3, e4⟩ | ⟨_, e2⟩
  · rw [if_pos e1] at h
    have ho1 : octs (pkTake b 1).2.1 := by rw [e2] at ho; exact (octs_cons ho).2
    by_cases h1 : (pkTakeList (pkTake b 1).2.1 1).2.2 = 0
    · rw [if_pos h1] at h
      obtain ⟨a1, a2, a3, a4⟩ := tlist1 ho1 h1
      by_cases h2 : (pkTakeList (pkTakeList (pkTake b 1).2.1 1).2.1 8).2.2 = 0
      · rw [if_pos h2] at h
        obtain ⟨b1, b2, b3, b4⟩ := tlist8 a2 h2
        simp only [Option.some.injEq, Prod.mk.injEq] at h
        obtain ⟨rfl, rfl⟩ := h
        refine ⟨?_, b2, ⟨e3, e4⟩, ⟨a3, a4⟩, b3, b4⟩
        unfold encN
        simp only
        rw [List.cons_append, List.append_assoc, ← b1, ← a1]
        exact e2
      · rw [if_neg h2] at h; cases h
    · rw [if_neg h1] at h; cases h
  · rw [if_neg (by rw [e2]; simp)] at h; cases h
def rdNodes : Nat → List Int → Option (List S48 × List Int)
  | 0, b => some ([], b)
  | m + 1, b => (rdNode b).bind fun x => (rdNodes m x.2).map fun y => (x.1 :: y.1, y.2)
theorem rdNodes_put : ∀ (l : List S48) (t : List Int), (∀ n ∈ l, putN n) → rdNodes l.length (encNs l ++ t) = some (l, t)
  | [], t, _ => rfl
  | n :: l, t, h => by
    rw [encNs_cons, List.append_assoc, List.length_cons, rdNodes, rdNode_put (h n List.mem_cons_self)]
    simp only [Option.bind_some]
    rw [rdNodes_put l t (fun m hm => h m (List.mem_cons_of_mem _ hm))]
    rfl
theorem rdNodes_inv : ∀ (m : Nat) (b : List Int) (l : List S48) (r : List Int), octs b → rdNodes m b = some (l, r) → b = encNs l ++ r ∧ octs r ∧ (∀ n ∈ l, putN n) ∧ l.length = m
  | 0, b, l, r, ho, h => by
    simp only [rdNodes, Option.some.injEq, Prod.mk.injEq] at h
    obtain ⟨rfl, rfl⟩ := h
    exact ⟨rfl, ho, (fun n hn => by cases hn), rfl⟩
  | m + 1, b, l, r, ho, h => by
    rw [rdNodes] at h
    obtain ⟨⟨n, b1⟩, h1, h2⟩ := Option.bind_eq_some_iff.mp h
    obtain ⟨⟨l1, r1⟩, h3, h4⟩ := Option.map_eq_some_iff.mp h2
    simp only [Prod.mk.injEq] at h4
    obtain ⟨rfl, rfl⟩ := h4
    obtain ⟨a1, a2, a3⟩ := rdNode_inv ho h1
    obtain ⟨b2, b3, b4, b5⟩ := rdNodes_inv m b1 l1 r1 a2 h3
    refine ⟨by rw [encNs_cons, List.append_assoc, ← b2]; exact a1, b3, fun x hx => ?_, by simp [b5]⟩
    rcases List.mem_cons.1 hx with rfl | hx
    · exact a3
    · exact b4 x hx
theorem octs_encN {n : S48} (h : putN n) : octs (encN n) := by
  obtain ⟨h0, ⟨h1, h2⟩, h3, h4⟩ := h
  intro x hx
  unfold encN at hx
  rcases List.mem_cons.1 hx with rfl | hx
  · omega
  · rcases List.mem_append.1 hx with hx | hx
    · rcases List.mem_cons.1 hx with rfl | hx
      · omega
      · exact octs_all 1 _ x hx
    · rcases List.mem_cons.1 hx with rfl | hx
      · omega
      · exact octs_all 8 _ x hx
theorem octs_encNs {l : List S48} (h : ∀ n ∈ l, putN n) : octs (encNs l) := by
  intro x hx
  obtain ⟨n, hn, hx⟩ := List.mem_flatMap.1 hx
  exact octs_encN (h n hn) x hx
theorem ok_put {l : List S48} (h : GOk l) (hw : wideG l) : ∀ n ∈ l, putN n := by
  intro n hn
  obtain ⟨j, hj, _, hnw⟩ := h.mem hn
  have hl := node_len hnw
  obtain ⟨kd, _, _, _, h4⟩ := nodeW_iff.mp hnw
  have := h.le
  exact ⟨⟨by omega, by omega⟩, ⟨by omega, fun a ha => by have := h4 a ha; omega⟩, by omega, hw n hn⟩
theorem octs_encG {l : List S48} (h : GOk l) (hw : wideG l) : octs (encG l) := by
  intro x hx
  rcases List.mem_cons.1 hx with rfl | hx
  · have := h.le; omega
  · exact octs_encNs (ok_put h hw) x hx
theorem octs_encG' {l : List S48} (h : GOk l) : octs (encG l) := by
  intro x hx
  rcases List.mem_cons.1 hx with rfl | hx
  · have := h.le; omega
  · obtain ⟨n, hn, hx⟩ := List.mem_flatMap.1 hx
    obtain ⟨j, hj, _, hnw⟩ := h.mem hn
    have hl := node_len hnw
    unfold encN at hx
    rcases List.mem_cons.1 hx with rfl | hx
    · omega
    · rcases List.mem_append.1 hx with hx | hx
      · rcases List.mem_cons.1 hx with rfl | hx
        · omega
        · exact octs_all 1 _ x hx
      · rcases List.mem_cons.1 hx with rfl | hx
        · omega
        · exact octs_all 8 _ x hx
theorem encNs_le {l : List S48} (h : ∀ n ∈ l, n.f1.length ≤ 2 ∧ n.f2.length ≤ 4) : (encNs l).length ≤ 37 * l.length := by
  induction l with
  | nil => simp [encNs]
  | cons n l ih =>
    have h1 := h n List.mem_cons_self
    have h2 := ih (fun m hm => h m (List.mem_cons_of_mem _ hm))
    rw [encNs_cons, List.length_append, encN_len, List.length_cons]
    omega
theorem ok_small {l : List S48} (h : GOk l) : ∀ n ∈ l, n.f1.length ≤ 2 ∧ n.f2.length ≤ 4 := fun n hn => by
  obtain ⟨j, _, _, hnw⟩ := h.mem hn
  have := node_len hnw
  omega
theorem encG_le {l : List S48} (h : GOk l) : (encG l).length ≤ 889 := by
  have := encNs_le (ok_small h)
  have := h.le
  simp only [encG, List.length_cons]
  omega
def rdGraph (b : List Int) : List S48 × Int := if (pkTake b 1).2.2 = 0 then wrEnd [] (rdNodes (pkTake b 1).1.toNat (pkTake b 1).2.1) else ([], 120)
theorem rdGraph_put {l : List S48} (h : GOk l) (hw : wideG l) (t : List Int) : rdGraph (encG l ++ t) = if t = [] then (l, 0) else ([], 120) := by
  have h24 := h.le
  have e0 : pkTake (encG l ++ t) 1 = ((l.length : Int), encNs l ++ t, 0) := by
    have := take_one (l.length : Int) 1 (encNs l ++ t) (may1 ⟨by omega, by omega⟩) (by omega) (by omega)
    rw [show (1 : Int).toNat = 1 from rfl, bytes1 ⟨by omega, by omega⟩] at this
    exact this
  unfold rdGraph
  rw [e0]
  simp only [if_true, Int.toNat_natCast]
  rw [rdNodes_put l t (ok_put h hw)]
  unfold wrEnd
  simp only [List.nil_append, gchk_iff.mpr h, and_true]
theorem rdGraph_err {b : List Int} (h : ¬ (rdGraph b).2 = 0) : rdGraph b = ([], 120) := by
  unfold rdGraph at h ⊢
  split
  · rename_i c
    rw [if_pos c] at h
    unfold wrEnd at h ⊢
    split
    · rfl
    · rename_i y hy
      rw [hy] at h
      simp only at h
      split
      · rename_i c2
        rw [if_pos c2] at h
        exact absurd rfl h
      · rfl
  · rfl
theorem rdGraph_inv {b : List Int} (ho : octs b) (h : (rdGraph b).2 = 0) : GOk (rdGraph b).1 ∧ wideG (rdGraph b).1 ∧ encG (rdGraph b).1 = b := by
  revert h
  unfold rdGraph
  rcases take1 ho with ⟨e1, e2, e3, e4⟩ | ⟨_, e2⟩
  · rw [if_pos e1]
    have ho1 : octs (pkTake b 1).2.1 := by rw [e2] at ho; exact (octs_cons ho).2
    cases hp : rdNodes (pkTake b 1).1.toNat (pkTake b 1).2.1 with
    | none => intro h; simp [wrEnd] at h
    | some y =>
      obtain ⟨l, r⟩ := y
      obtain ⟨a1, a2, a3, a4⟩ := rdNodes_inv _ _ _ _ ho1 hp
      unfold wrEnd
      simp only [List.nil_append]
      by_cases c : r = [] ∧ gchk l = true
      · rw [if_pos c]
        intro _
        refine ⟨gchk_iff.mp c.2, fun n hn => (a3 n hn).2.2.2, ?_⟩
        rw [c.1, List.append_nil] at a1
        show (l.length : Int) :: encNs l = b
        rw [a4, Int.toNat_of_nonneg e3, ← a1]
        exact e2.symm
      · rw [if_neg c]
        intro h; simp at h
  · rw [if_neg (by rw [e2]; simp)]
    intro h; simp at h
theorem wput_f (x : List Int) (v : Int) (hx : x.length < 140737488355328) (k : Nat) (hk : 3 ≤ k) : wire_put.f k x [v] = some (x ++ [v % 256]) := by
  obtain ⟨k, rfl⟩ : ∃ q, k = q + 2 := ⟨k - 2, by omega⟩
  unfold wire_put.f
  have e : wrap64 (0 + 1) = 1 := by simp [wrap64]
  rw [wire_put.l0, if_pos (by simp), if_pos (by omega), if_pos (by simp), if_pos hx, e, wire_put.l0, if_neg (by simp)]
  rfl
theorem wlist1 {n : S48} (h : n.f1.length ≤ 2 ∧ ∀ a ∈ n.f1, 0 ≤ a ∧ a ≤ 255) (x : List Int) (hx : x.length ≤ 1000000) : pack_List.f x n.f1 1 = some (x ++ ((n.f1.length : Int) :: pkAll 1 n.f1), 0) := by
  have ok : pkListOk n.f1 1 = true := by
    unfold pkListOk
    rw [decide_eq_true (show n.f1.length ≤ 255 by omega), List.all_eq_true.mpr (fun a ha => may1 (h.2 a ha))]
    rfl
  unfold pack_List.f pkList
  rw [if_pos (by omega), if_pos ok]
theorem wlist8 {s : List Int} (h : s.length ≤ 4) (x : List Int) (hx : x.length ≤ 1000000) : pack_List.f x s 8 = some (x ++ ((s.length : Int) :: pkAll 8 s), 0) := by
  have ok : pkListOk s 8 = true := by
    unfold pkListOk
    rw [decide_eq_true (show s.length ≤ 255 by omega), List.all_eq_true.mpr (fun a _ => may8 a)]
    rfl
  unfold pack_List.f pkList
  rw [if_pos (by omega), if_pos ok]
theorem wwrite_l0 (l : List S48) (h : GOk l) (d : Nat) : ∀ (k i : Nat) (x : List Int), l.length - i = d → i ≤ l.length → d + 10 ≤ k → x.length ≤ 1000 + 37 * i →
    wire_Write.l0 k x l (l.length : Int) (i : Int) = some (x ++ encNs (l.drop i), 0) := by
  induction d with
  | zero =>
    intro k i x hd hi hk hx
    obtain ⟨k, rfl⟩ : ∃ q, k = q + 1 := ⟨k - 1, by omega⟩
    rw [wire_Write.l0, if_neg (by omega), List.drop_eq_nil_of_le (by omega)]
    simp [encNs]
  | succ d ih =>
    intro k i x hd hi hk hx
    obtain ⟨k, rfl⟩ : ∃ q, k = q + 1 := ⟨k - 1, by omega⟩
    have hil : i < l.length := by omega
    have h24 := h.le
    have hn := h.node i _ (List.getElem?_eq_getElem hil)
    have hl := node_len hn
    obtain ⟨kd, _, _, _, h4⟩ := nodeW_iff.mp hn
    have ih' := ih k (i + 1) (x ++ encN l[i]) (by omega) (by omega) (by omega) (by rw [List.length_append, encN_len]; omega)
    rw [wire_Write.l0, if_pos (by omega), if_pos (by omega), if_pos (by omega), rdN hil, wput_f x _ (by omega) k (by omega)]
    simp only [Option.bind_some]
    rw [show l[i].f0 % 256 = l[i].f0 by omega, wlist1 ⟨by omega, fun a ha => by have := h4 a ha; omega⟩ _ (by simp; omega)]
    simp only [Option.bind_some]
    rw [wlist8 (by omega) _ (by simp [all1_len]; omega)]
    simp only [Option.bind_some]
    have e : wrap64 ((i : Int) + 1) = ((i + 1 : Nat) : Int) := by unfold wrap64; omega
    have e2 : x ++ [l[i].f0] ++ ((l[i].f1.length : Int) :: pkAll 1 l[i].f1) ++ ((l[i].f2.length : Int) :: pkAll 8 l[i].f2) = x ++ encN l[i] := by
      simp only [encN, List.append_assoc, List.cons_append, List.nil_append]
    rw [e, e2, ih', List.drop_eq_getElem_cons hil, encNs_cons, List.append_assoc]
theorem wwrite_f (l : List S48) (k : Nat) (hk : 100 ≤ k) : wire_Write.f k l = some (if gchk l = true then (encG l, 0) else ([], 100)) := by
  unfold wire_Write.f graph_Check.f
  simp only [Option.bind_some]
  by_cases h : gchk l = true
  · rw [if_pos h, if_pos h, wput_f [] _ (by simp) k (by omega)]
    simp only [Option.bind_some, List.nil_append]
    have hg := gchk_iff.mp h
    have h24 := hg.le
    have := wwrite_l0 l hg l.length k 0 [(l.length : Int) % 256] (by omega) (by omega) (by omega) (by simp)
    rw [show ((0 : Nat) : Int) = 0 from rfl] at this
    rw [this, show (l.length : Int) % 256 = l.length by omega]
    rfl
  · rw [if_neg h, if_neg h]
theorem take_len (b : List Int) (s : Int) : (pkTake b s).2.1.length ≤ b.length := by
  unfold pkTake
  split <;> simp
theorem octs_take1 {b : List Int} (ho : octs b) : octs (pkTake b 1).2.1 := by
  unfold pkTake
  split
  · exact octs_drop ho _
  · intro x hx; cases hx
theorem octs_list1 {b : List Int} (ho : octs b) : octs (pkTakeList b 1).2.1 := by
  by_cases h : (pkTakeList b 1).2.2 = 0
  · exact (tlist1 ho h).2.1
  · unfold pkTakeList at h ⊢
    split
    · rename_i c
      rw [if_pos c] at h
      split
      · rename_i p hp
        rw [hp] at h
        exact absurd rfl h
      · intro x hx; cases hx
    · intro x hx; cases hx
theorem ptake_f {b : List Int} (hl : b.length ≤ 1000000000000) (s : Int) : pack_Take.f b s = some (pkTake b s) := by
  unfold pack_Take.f
  rw [if_pos (by omega)]
theorem plist_f {b : List Int} (ho : octs b) (hl : b.length ≤ 1000000000000) (s : Int) : pack_TakeList.f b s = some (pkTakeList b s) := by
  unfold pack_TakeList.f
  rw [if_pos (by omega), if_pos (many_ok ho)]
theorem wrNode_f {b : List Int} (ho : octs b) (hl : b.length ≤ 1000000000000) : wrNode b = some (rdNode b) := by
  unfold wrNode rdNode
  rw [ptake_f hl]
  simp only [Option.bind_some]
  have l1 := take_len b 1
  have o1 := octs_take1 ho
  by_cases h0 : (pkTake b 1).2.2 = 0
  · rw [if_pos h0, if_pos h0, plist_f o1 (by omega)]
    simp only [Option.bind_some]
    have l2 := tlist_len (pkTake b 1).2.1
    have o2 := octs_list1 o1
    by_cases h1 : (pkTakeList (pkTake b 1).2.1 1).2.2 = 0
    · rw [if_pos h1, if_pos h1, plist_f o2 (by omega)]
      simp only [Option.bind_some]
      by_cases h2 : (pkTakeList (pkTakeList (pkTake b 1).2.1 1).2.1 8).2.2 = 0
      · rw [if_pos h2, if_pos h2]
      · rw [if_neg h2, if_neg h2]
    · rw [if_neg h1, if_neg h1]
  · rw [if_neg h0, if_neg h0]
theorem rdNode_len {b : List Int} (ho : octs b) {n : S48} {r : List Int} (h : rdNode b = some (n, r)) : r.length ≤ b.length ∧ octs r := by
  obtain ⟨h1, h2, _⟩ := rdNode_inv ho h
  exact ⟨by rw [h1, List.length_append]; omega, h2⟩
theorem wrNodes_f : ∀ (m : Nat) (b : List Int), octs b → b.length ≤ 1000000000000 → wrNodes m b = some (rdNodes m b)
  | 0, b, _, _ => rfl
  | m + 1, b, ho, hl => by
    rw [wrNodes, rdNodes, wrNode_f ho hl]
    simp only [Option.bind_some]
    cases h : rdNode b with
    | none => rfl
    | some x =>
      obtain ⟨n, r⟩ := x
      obtain ⟨h1, h2⟩ := rdNode_len ho h
      simp only [Option.bind_some]
      rw [wrNodes_f m r h2 (by omega)]
      rfl
theorem wread_f {b : List Int} (ho : octs b) (hl : b.length ≤ 1000000000000) : wire_Read.f b = some (rdGraph b) := by
  unfold wire_Read.f rdGraph
  rw [ptake_f hl]
  simp only [Option.bind_some]
  rcases take1 ho with ⟨e1, e2, e3, e4⟩ | ⟨_, e2⟩
  · rw [if_pos e1, if_pos ⟨e3, e4⟩, if_pos e1, wrNodes_f _ _ (octs_take1 ho) (by have := take_len b 1; omega)]
    rfl
  · rw [if_neg (by rw [e2]; simp), if_neg (by rw [e2]; simp)]
theorem wide_in {b : List Int} (h : ∀ x ∈ b, (Lit.int .i64 x).wf = true) : wideL b := fun x hx => by
  have := h x hx
  simp [Lit.wf, IntKind.min, IntKind.max, IntKind.signed, IntKind.bits] at this
  omega
theorem wideG_in {l : List S48} (h : ∀ x ∈ l, OK48 x) : wideG l := fun n hn => wide_in (h n hn).2.2.2
def fewG (l : List S48) : Bool := (l.all fun n => decide (n.f1.length ≤ 30) && decide (n.f2.length ≤ 30)) && decide (l.length ≤ 30)
theorem few10_l0 (l : List S48) (hl : l.length ≤ 9223372036854775806) (d : Nat) : ∀ (k i : Nat), l.length - i = d → i ≤ l.length → d + 1 ≤ k →
    fullerref10_Few.l0 k l (i : Int) = some (((l.drop i).all fun n => decide (n.f1.length ≤ 30) && decide (n.f2.length ≤ 30)) && decide (l.length ≤ 30)) := by
  induction d with
  | zero =>
    intro k i hd hi hk
    obtain ⟨k, rfl⟩ : ∃ q, k = q + 1 := ⟨k - 1, by omega⟩
    have e : decide ((l.length : Int) ≤ 30) = decide (l.length ≤ 30) := decide_eq_decide.mpr (by omega)
    rw [fullerref10_Few.l0, if_neg (by omega), List.drop_eq_nil_of_le (by omega), e]
    simp
  | succ d ih =>
    intro k i hd hi hk
    obtain ⟨k, rfl⟩ : ∃ q, k = q + 1 := ⟨k - 1, by omega⟩
    have hil : i < l.length := by omega
    have ih' := ih k (i + 1) (by omega) (by omega) (by omega)
    rw [fullerref10_Few.l0, if_pos (by omega), if_pos (by omega), rdN hil, List.drop_eq_getElem_cons hil, List.all_cons]
    by_cases h1 : ((l[i].f1.length : Int)) > 30
    · rw [if_pos h1, decide_eq_false (show ¬ l[i].f1.length ≤ 30 by omega)]
      simp
    · rw [if_neg h1, decide_eq_true (show l[i].f1.length ≤ 30 by omega)]
      by_cases h2 : ((l[i].f2.length : Int)) > 30
      · rw [if_pos h2, decide_eq_false (show ¬ l[i].f2.length ≤ 30 by omega)]
        simp
      · have e : wrap64 ((i : Int) + 1) = ((i + 1 : Nat) : Int) := by unfold wrap64; omega
        rw [if_neg h2, e, ih', decide_eq_true (show l[i].f2.length ≤ 30 by omega)]
        simp
theorem few10_f (l : List S48) (hl : l.length ≤ 9223372036854775806) (k : Nat) (hk : l.length + 1 ≤ k) : fullerref10_Few.f k l = some (fewG l) := by
  unfold fullerref10_Few.f fewG
  have := few10_l0 l hl l.length k 0 (by omega) (by omega) hk
  simpa using this
theorem fewG_iff {l : List S48} (h : fewG l = true) : l.length ≤ 30 ∧ ∀ n ∈ l, n.f1.length ≤ 30 ∧ n.f2.length ≤ 30 := by
  unfold fewG at h
  simp only [Bool.and_eq_true, decide_eq_true_eq, List.all_eq_true] at h
  exact ⟨h.2, h.1⟩
end Go.Proofs.Ytjcgadfmhfhbgaa.Plain
