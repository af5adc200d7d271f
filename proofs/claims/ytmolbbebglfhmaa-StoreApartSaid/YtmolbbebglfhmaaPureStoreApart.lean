/- For all stores, stamps and two writes StoreApart answers true; no conditions but the sizes that the statement names. -/
import Derived.Test.YtmolbbebglfhmaaStoreAwake
import Derived.Test.YtmolbbebglfhmaaStoreB
import Derived.Test.YtmolbbebglfhmaaStoreF
import Derived.Test.YtmolbbebglfhmaaAx17
namespace Go.Proofs.Ytmolbbebglfhmaa.Pure
open Go.RowKit Go.Proofs.Ytmolbbebglfhmaa.A Go.Proofs.Ytmolbbebglfhmaa.Plain Go.Proofs.YtmolbbebglfhmaaW.PrintWords Go.Proofs.YtmolbbebglfhmaaW.PrintLast Go.Proofs.YtmolbbebglfhmaaW.PrintMore
set_option linter.unusedVariables false
set_option linter.unusedSimpArgs false
theorem cm1_sok {C : List (List S74)} {now : Int} {P : List Int} (h : SOk C now P) (st : Int) (w : S42) : SOk (cm1 C now P st w).1 (cm1 C now P st w).2.1 (cm1 C now P st w).2.2.1 := by
  rcases cm1_two h st w with ⟨e, he, _⟩ | ⟨he, h1, h2, h3, h4, h5⟩
  · rw [he]; exact h
  · rw [he]; exact h.one h2 h1 h5
theorem ext_at {C D : List (List S74)} (hC : C.length = 8) (hD : D.length = 8) (m : Int) (h : ∀ p : Nat, p < 8 → rt (cAt C (p : Int)) m = rt (cAt D (p : Int)) m) : C.map (fun l => rt l m) = D.map (fun l => rt l m) := by
  refine List.ext_getElem (by rw [List.length_map, List.length_map, hC, hD]) (fun i h1 h2 => ?_)
  rw [List.length_map] at h1 h2
  rw [List.getElem_map, List.getElem_map, ← cAt_eq h1, ← cAt_eq h2]
  exact h i (by omega)
theorem two_alike {C : List (List S74)} {now : Int} {P : List Int} (h : SOk C now P) {a b : S42} (ha : isPar a.f0 = true) (hb : isPar b.f0 = true) (hne : ¬ a.f0 = b.f0) (fa : Fit (now + 1) (cAt C a.f0) a) (fb : Fit (now + 1) (cAt C b.f0) b) (m : Int) (hm : now + 2 ≤ m) :
    ((C.set a.f0.toNat (cAt C a.f0 ++ [⟨now + 1, a.f1⟩])).set b.f0.toNat (cAt C b.f0 ++ [⟨now + 1 + 1, b.f1⟩])).map (fun l => rt l m) = ((C.set b.f0.toNat (cAt C b.f0 ++ [⟨now + 1, b.f1⟩])).set a.f0.toNat (cAt C a.f0 ++ [⟨now + 1 + 1, a.f1⟩])).map (fun l => rt l m) := by
  have h8 := h.c8
  have qa := par_iff.mp ha
  have qb := par_iff.mp hb
  refine ext_at (by simpa using h8) (by simpa using h8) m (fun p hp => ?_)
  have qp : 0 ≤ (p : Int) ∧ (p : Int) < 8 := by omega
  rw [set_at qb qp (by simpa using h8), set_at qa qp h8, set_at qa qp (by simpa using h8), set_at qb qp h8]
  by_cases c1 : b.f0 = (p : Int)
  · rw [if_pos c1, if_neg (fun e => hne (e.trans c1.symm)), if_pos c1, rt_snoc (Fit.ok (h.at_ hb).1 (fb.later (by omega))) (by omega), rt_snoc (Fit.ok (h.at_ hb).1 fb) (by omega)]
  · rw [if_neg c1]
    by_cases c2 : a.f0 = (p : Int)
    · rw [if_pos c2, if_pos c2, rt_snoc (Fit.ok (h.at_ ha).1 fa) (by omega), rt_snoc (Fit.ok (h.at_ ha).1 (fa.later (by omega))) (by omega)]
    · rw [if_neg c2, if_neg c2, if_neg c1]
def apartQ (k : Nat) (C : List (List S74)) (now : Int) (P : List Int) (a b : S42) (X Y p q : List (List S74) × Int × List Int × Int) : Option Bool :=
  if X.2.2.2 = 0 then fullerlaw18_StoreApart.j1 k true X.2.2.2 p.2.2.2 q.2.2.2 (Y.2.2.2 != 0) C now P a.f0 a.f1.f0 a.f1.f1 b.f0 b.f1.f0 b.f1.f1 X.1 X.2.1 X.2.2.1 p.1 p.2.1 p.2.2.1 q.1 q.2.1 q.2.2.1
  else fullerlaw18_StoreApart.j1 k true X.2.2.2 p.2.2.2 q.2.2.2 true C now P a.f0 a.f1.f0 a.f1.f1 b.f0 b.f1.f0 b.f1.f1 X.1 X.2.1 X.2.2.1 p.1 p.2.1 p.2.2.1 q.1 q.2.1 q.2.2.1
theorem second_stale {C : List (List S74)} {now : Int} {P : List Int} (h : SOk C now P) {st : Int} {a b : S42} (ha : isPar a.f0 = true) (he : a.f0 = b.f0) (hst : st ∈ P) (hn : now + 2 ≤ 1099511627776) (fa : Fit (now + 1) (cAt C a.f0) a) :
    (cm1 (C.set a.f0.toNat (cAt C a.f0 ++ [⟨now + 1, a.f1⟩])) (now + 1) P st b).2.2.2 = 181 := by
  have h8 := h.c8
  have qa := par_iff.mp ha
  have hv := Fit.ok (h.at_ ha).1 fa
  have hp := h.pp st hst
  rw [cm1_stale (by rw [← he]; exact ha) (by omega) hst]
  rw [← he, set_at qa qa h8, if_pos rfl]
  simp only [nw, hv, Bool.true_and, decide_eq_true_eq]
  rw [bh_ahead hv (by omega), List.length_append, List.length_singleton]
  have := bh_le (cAt C a.f0) st
  omega
theorem second_good {C : List (List S74)} {now : Int} {P : List Int} (h : SOk C now P) {st : Int} {a b : S42} (ha : isPar a.f0 = true) (hb : isPar b.f0 = true) (hne : ¬ a.f0 = b.f0) (hst : st ∈ P) (hn : now + 2 ≤ 1099511627776) (hw : nw (cAt C b.f0) st = false) (fb : Fit (now + 1) (cAt C b.f0) b) :
    cm1 (C.set a.f0.toNat (cAt C a.f0 ++ [⟨now + 1, a.f1⟩])) (now + 1) P st b = ((C.set a.f0.toNat (cAt C a.f0 ++ [⟨now + 1, a.f1⟩])).set b.f0.toNat (cAt C b.f0 ++ [⟨now + 1 + 1, b.f1⟩]), now + 1 + 1, P, 0) := by
  have h8 := h.c8
  have hlo := h.lo
  have e : cAt (C.set a.f0.toNat (cAt C a.f0 ++ [⟨now + 1, a.f1⟩])) b.f0 = cAt C b.f0 := by rw [set_at (par_iff.mp ha) (par_iff.mp hb) h8, if_neg hne]
  rw [cm1_good hb (by omega) hst (by rw [e]; exact hw) (by rw [e]; exact (h.at_ hb).1) (by omega) (by rw [e]; exact fb.later (by omega)), e]
theorem apartQ_f {C : List (List S74)} {now : Int} {P : List Int} (h : SOk C now P) (st : Int) (a b : S42) (k : Nat) (hk : 3000 ≤ k) (hk2 : k ≤ 9223372036854775000) :
    apartQ (k + 1) C now P a b (cm1 C now P st a) (cm1 C now P st b) (cm1 (cm1 C now P st a).1 (cm1 C now P st a).2.1 (cm1 C now P st a).2.2.1 st b) (cm1 (cm1 C now P st b).1 (cm1 C now P st b).2.1 (cm1 C now P st b).2.2.1 st a) = some true := by
  have hlo := h.lo
  have hhi := h.hi
  unfold apartQ
  rcases cm1_two h st a with ⟨e, he, hne⟩ | ⟨he, h1, h2, h3, h4, h5⟩
  · rw [he]
    rw [if_neg hne, fullerlaw18_StoreApart.j1, if_pos rfl, if_pos rfl, if_neg hne, h.same k (by omega) (by omega)]; rfl
  · rcases cm1_two h st b with ⟨f, hf, hnf⟩ | ⟨hf, g1, g2, g3, g4, g5⟩
    · rw [he, hf]
      rw [if_pos rfl, fullerlaw18_StoreApart.j1, if_pos (by simpa using hnf), if_pos rfl, if_pos rfl]
    · have hSp := cm1_sok (h.one h2 h1 h5) st b
      have hSq := cm1_sok (h.one g2 g1 g5) st a
      rw [he, hf]
      rw [if_pos rfl, fullerlaw18_StoreApart.j1, if_neg (show ¬ ((0 : Int) != 0) = true by decide), show wrap64 (now + 2) = now + 2 from w64 (by omega) (by omega)]
      by_cases cp : a.f0 = b.f0
      · rw [if_pos cp, if_pos rfl]
        by_cases cl : now + 2 > 1099511627776
        · rw [if_pos cl]
        · rw [if_neg cl, if_pos (second_stale h h1 cp h3 (by omega) h5), second_stale h g1 cp.symm h3 (by omega) g5]; rfl
      · rw [if_neg cp, if_pos rfl]
        by_cases cl : now + 2 > 1099511627776
        · rw [if_pos cl]
        · have e1 := second_good h h1 g1 cp h3 (by omega) g4 g5
          have e2 := second_good h g1 h1 (fun e => cp e.symm) h3 (by omega) h4 h5
          rw [e1] at hSp ⊢
          rw [e2] at hSq ⊢
          rw [if_neg cl, if_pos rfl, if_pos rfl, if_pos rfl]
          rw [all_f hSp _ k (by omega), Option.bind_some, all_f hSq _ k (by omega), Option.bind_some, two_alike h h1 g1 cp h5 g5 (now + 1 + 1) (by omega)]
          rw [isame_f _ (fun t ht => by obtain ⟨l, _, rfl⟩ := List.mem_map.mp ht; exact rt_len l _) (by rw [List.length_map, hSq.c8]; decide) k (by omega) (by omega)]
          rfl
theorem apart_f {C : List (List S74)} {now : Int} {P : List Int} (h : SOk C now P) (st : Int) (a b : S42) (k : Nat) (hk : 3002 ≤ k) (hk2 : k ≤ 9223372036854775000) :
    ((store_Commit.f k C now P st ([] : List Int) ([(⟨a.f0, (⟨a.f1.f0, a.f1.f1⟩ : S37)⟩ : S42)] : List S42)).bind fun X => ((store_Commit.f k C now P st ([] : List Int) ([(⟨b.f0, (⟨b.f1.f0, b.f1.f1⟩ : S37)⟩ : S42)] : List S42)).bind fun Y => ((store_Commit.f k X.1 X.2.1 X.2.2.1 st ([] : List Int) ([(⟨b.f0, (⟨b.f1.f0, b.f1.f1⟩ : S37)⟩ : S42)] : List S42)).bind fun p => ((store_Commit.f k Y.1 Y.2.1 Y.2.2.1 st ([] : List Int) ([(⟨a.f0, (⟨a.f1.f0, a.f1.f1⟩ : S37)⟩ : S42)] : List S42)).bind fun q => apartQ k C now P a b X Y p q)))) = some true := by
  obtain ⟨k, rfl⟩ : ∃ m, k = m + 1 := ⟨k - 1, by omega⟩
  rw [commit1_f h st a _ (by omega), Option.bind_some, commit1_f h st b _ (by omega), Option.bind_some]
  rw [commit1_f (cm1_sok h st a) st b _ (by omega), Option.bind_some, commit1_f (cm1_sok h st b) st a _ (by omega), Option.bind_some]
  exact apartQ_f h st a b k (by omega) (by omega)
theorem StoreApart : fullerlaw18_StoreApart.Pure := by
  intro C now P st a0 a1 a2 b0 b1 b2 hC hnow hP hst ha0 ha1 ha2 hb0 hb1 hb2
  have hM : ∀ l ∈ C, l.length ≤ 2513169434843 := fun l hl => by have := (hC.2 l hl).1; omega
  have hCl : C.length ≤ 5864062014634 := by have := hC.1; omega
  clear hC hnow hP hst ha0 ha1 ha2 hb0 hb1 hb2
  obtain ⟨K, hK1, hK2⟩ : ∃ K : Nat, C.length + 2513169440000 ≤ K ∧ K ≤ 9223372036854775000 := ⟨C.length + 2513169450000, by omega, by omega⟩
  refine ⟨K + 1, ?_⟩
  unfold fullerlaw18_StoreApart.f
  rw [awake_f _ (by omega)]
  simp only [Option.bind_some]
  obtain ⟨b, hb, hbi⟩ := sfew_f C now P 2513169434843 hM (by omega) (by omega) (K + 1) (by omega)
  rw [hb]
  simp only [Option.bind_some]
  have hup : fullerlaw18_StoreApart.j0 (K + 1) st true true C now P a0 a1 a2 b0 b1 b2 = some true := by rw [fullerlaw18_StoreApart.j0, if_pos rfl]
  cases b with
  | false => rw [if_neg (by simp)]; exact hup
  | true =>
    obtain ⟨f1, f2, f3⟩ := hbi rfl
    rw [if_pos rfl]
    obtain ⟨b2, hb2, hbi2⟩ := wfew_f [(⟨a0, ⟨a1, a2⟩⟩ : S42), ⟨b0, ⟨b1, b2⟩⟩] 2 (by simp) (K + 1) (by simp; omega)
    rw [hb2]
    simp only [Option.bind_some]
    cases b2 with
    | false => rw [if_neg (by simp)]; exact hup
    | true =>
      rw [if_pos rfl]
      obtain ⟨c, hc, hci⟩ := check_any (now := now) (P := P) (fun l hl => by have := (fewV_iff (f1 l hl)).1; omega) (K + 1) (by omega)
      rw [hc]
      simp only [Option.bind_some]
      cases c with
      | false => exact hup
      | true =>
        have h := hci.mp rfl
        clear hb hbi hc hci hM f1 hup hb2 hbi2
        obtain ⟨K, rfl⟩ : ∃ m, K = m + 3 := ⟨K - 3, by omega⟩
        rw [fullerlaw18_StoreApart.j0, if_neg (by simp)]
        exact apart_f h st ⟨a0, ⟨a1, a2⟩⟩ ⟨b0, ⟨b1, b2⟩⟩ (K + 3) (by omega) (by omega)
end Go.Proofs.Ytmolbbebglfhmaa.Pure
