/- Commits, in plain words: what stands in the chains behind them; no conditions. -/
import Derived.Test.YtmolbbebglfhmaaStoreA
namespace Go.Proofs.Ytmolbbebglfhmaa.Plain
open Go.RowKit Go.Proofs.Ytmolbbebglfhmaa.A Go.Proofs.YtmolbbebglfhmaaW.PrintWords Go.Proofs.YtmolbbebglfhmaaW.PrintLast Go.Proofs.YtmolbbebglfhmaaW.PrintMore
set_option linter.unusedVariables false
set_option linter.unusedSimpArgs false
theorem nw_bh {l : List S74} {a : Int} (hv : vchk l = true) : nw l a = false ↔ bh l a = l.length := by
  have := bh_le l a
  simp only [nw, hv, Bool.true_and, decide_eq_false_iff_not]
  omega
theorem rt_len (l : List S74) (a : Int) : (rt l a).f0.length ≤ 3 ∧ (rt l a).f1.length ≤ 64 := rdv_len l a
theorem rdv_bh {l : List S74} {a b : Int} (h : bh l a = bh l b) : rdv l a = rdv l b := by
  unfold rdv; rw [h]
theorem rt_bh {l : List S74} {a b : Int} (h : bh l a = bh l b) : rt l a = rt l b := by
  unfold rt; rw [rdv_bh h]
theorem bh_last {l : List S74} {n m : Int} {w : S37} (hv : vchk (l ++ [⟨n, w⟩]) = true) (h : n ≤ m) : bh (l ++ [⟨n, w⟩]) m = l.length + 1 :=
  (bh_snoc (a := m) (st := n) (s := w.f0) (d := w.f1) (vchk_iff.mp hv).2.1).1 h
theorem rt_snoc {l : List S74} {n m : Int} {w : S37} (hv : vchk (l ++ [⟨n, w⟩]) = true) (h : n ≤ m) : rt (l ++ [⟨n, w⟩]) m = w := by
  have e := bh_last hv h
  unfold rt
  rw [rdv_ok hv (by omega)]
  have : (l ++ [(⟨n, w⟩ : S74)])[bh (l ++ [⟨n, w⟩]) m - 1]'(by rw [e]; simp) = ⟨n, w⟩ := by
    simp [e]
  rw [this]
theorem Fit.ok {l : List S74} {n : Int} {w : S42} (hv : vchk l = true) (h : Fit n l w) : vchk (l ++ [⟨n, w.f1⟩]) = true :=
  vchk_snoc (s := w.f1.f0) (d := w.f1.f1) hv ⟨h.1, h.2.1, h.2.2.1⟩ h.2.2.2
theorem all_at {C : List (List S74)} (h8 : C.length = 8) {l : List S74} (h : l ∈ C) : ∃ p : Nat, p < 8 ∧ cAt C (p : Int) = l := by
  obtain ⟨i, hi, rfl⟩ := List.getElem_of_mem h
  exact ⟨i, by omega, cAt_eq hi⟩
theorem SOk.at_ {C : List (List S74)} {now : Int} {P : List Int} (h : SOk C now P) {p : Int} (hp : isPar p = true) : vchk (cAt C p) = true ∧ bh (cAt C p) now = (cAt C p).length := by
  have h8 := h.c8
  have hq := par_iff.mp hp
  have hm := cAt_mem (C := C) hq.1 (by omega)
  exact ⟨h.vs _ hm, (nw_bh (h.vs _ hm)).mp (h.no _ hm)⟩
theorem SOk.of {C : List (List S74)} {now : Int} {P : List Int} (h8 : C.length = 8) (lo : 0 ≤ now) (hi : now ≤ 1099511627776) (pl : P.length ≤ 64) (ps : Rise P) (pp : ∀ p ∈ P, 0 ≤ p ∧ p ≤ now)
    (h : ∀ p : Int, isPar p = true → vchk (cAt C p) = true ∧ bh (cAt C p) now = (cAt C p).length) : SOk C now P := by
  refine ⟨h8, lo, hi, pl, ps, fun l hl => ?_, fun l hl => ?_, pp⟩
  · obtain ⟨p, hp, rfl⟩ := all_at h8 hl
    exact (h p (par_iff.mpr (by omega))).1
  · obtain ⟨p, hp, rfl⟩ := all_at h8 hl
    have := h p (par_iff.mpr (by omega))
    exact (nw_bh this.1).mpr this.2
theorem fold_len (n : Int) : ∀ (ws : List S42) (C : List (List S74)), (ws.foldl (put1 n) C).length = C.length
  | [], _ => rfl
  | w :: r, C => by rw [List.foldl_cons, fold_len n r]; simp [put1]
theorem fold_out (n : Int) : ∀ (ws : List S42) (C : List (List S74)) (p : Int), C.length = 8 → (∀ w ∈ ws, isPar w.f0 = true) → isPar p = true → p ∉ ws.map (fun w => w.f0) → cAt (ws.foldl (put1 n) C) p = cAt C p
  | [], _, _, _, _, _, _ => rfl
  | w :: r, C, p, h8, hw, hp, hn => by
    rw [List.map_cons, List.mem_cons, not_or] at hn
    rw [List.foldl_cons, fold_out n r _ p (by simp [put1]; exact h8) (fun x hx => hw x (List.mem_cons_of_mem _ hx)) hp hn.2]
    unfold put1
    rw [set_at (par_iff.mp (hw w List.mem_cons_self)) (par_iff.mp hp) h8, if_neg (fun e => hn.1 e.symm)]
theorem fold_in (n : Int) : ∀ (ws : List S42) (C : List (List S74)) (w : S42), C.length = 8 → (∀ w ∈ ws, isPar w.f0 = true) → (ws.map (fun w => w.f0)).Nodup → w ∈ ws → cAt (ws.foldl (put1 n) C) w.f0 = cAt C w.f0 ++ [⟨n, w.f1⟩]
  | [], _, _, _, _, _, h => absurd h (by simp)
  | x :: r, C, w, h8, hw, hd, h => by
    rw [List.map_cons, List.nodup_cons] at hd
    have hx := par_iff.mp (hw x List.mem_cons_self)
    rw [List.foldl_cons]
    rcases List.mem_cons.mp h with rfl | h
    · rw [fold_out n r _ w.f0 (by simp [put1]; exact h8) (fun x hx => hw x (List.mem_cons_of_mem _ hx)) (hw w List.mem_cons_self) hd.1]
      unfold put1
      rw [set_at hx hx h8, if_pos rfl]
    · rw [fold_in n r _ w (by simp [put1]; exact h8) (fun x hx => hw x (List.mem_cons_of_mem _ hx)) hd.2 h]
      unfold put1
      rw [set_at hx (par_iff.mp (hw w (List.mem_cons_of_mem _ h))) h8, if_neg]
      exact fun e => hd.1 (e ▸ List.mem_map_of_mem h)
theorem SOk.commit {C : List (List S74)} {now : Int} {P : List Int} (h : SOk C now P) {ws : List S42} (hn : now < 1099511627776) (hw : ∀ w ∈ ws, isPar w.f0 = true) (hd : (ws.map (fun w => w.f0)).Nodup) (hf : ∀ w ∈ ws, Fit (now + 1) (cAt C w.f0) w) :
    SOk (ws.foldl (put1 (now + 1)) C) (now + 1) P := by
  have hlo := h.lo
  refine SOk.of (by rw [fold_len]; exact h.c8) (by omega) (by omega) h.pl h.ps (fun p hp => by have := h.pp p hp; omega) (fun p hp => ?_)
  have ha := h.at_ hp
  by_cases c : p ∈ ws.map (fun w => w.f0)
  · obtain ⟨w, hw1, rfl⟩ := List.mem_map.mp c
    rw [fold_in _ ws C w h.c8 hw hd hw1]
    have hv := Fit.ok ha.1 (hf w hw1)
    exact ⟨hv, by rw [bh_last hv (Int.le_refl _)]; simp⟩
  · rw [fold_out _ ws C p h.c8 hw hp c]
    have h1 := bh_mono (cAt C p) (show now ≤ now + 1 by omega)
    have h2 := bh_le (cAt C p) (now + 1)
    exact ⟨ha.1, by omega⟩
theorem SOk.one {C : List (List S74)} {now : Int} {P : List Int} (h : SOk C now P) {w : S42} (hn : now < 1099511627776) (hw : isPar w.f0 = true) (hf : Fit (now + 1) (cAt C w.f0) w) : SOk (C.set w.f0.toNat (cAt C w.f0 ++ [⟨now + 1, w.f1⟩])) (now + 1) P :=
  h.commit (ws := [w]) hn (fun x hx => by rw [List.mem_singleton] at hx; subst hx; exact hw) (by simp) (fun x hx => by rw [List.mem_singleton] at hx; subst hx; exact hf)
end Go.Proofs.Ytmolbbebglfhmaa.Plain
