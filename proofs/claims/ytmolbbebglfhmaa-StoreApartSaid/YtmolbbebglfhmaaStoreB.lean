/- Commits, in plain words: what stands in the chains behind them; no conditions. -/
import Derived.Test.YtmolbbebglfhmaaStoreA
namespace Go.Proofs.Ytmolbbebglfhmaa.Plain
open Go.RowKit Go.Proofs.Ytmolbbebglfhmaa.A Go.Proofs.YtmolbbebglfhmaaW.PrintWords Go.Proofs.YtmolbbebglfhmaaW.PrintLast Go.Proofs.YtmolbbebglfhmaaW.PrintMore
set_option linter.unusedVariables false
set_option linter.unusedSimpArgs false
theorem nw_bh {l : List S74} {a : Int} (hv : vchk l = true) : nw l a = false ↔ bh l a = l.length := by
  have := bh_le l a
  simp only [nw, hv, Bool.true_and, decide_eq_false_iff_not]
  omega
theorem rt_len (l : List S74) (a : Int) : (rt l a).f0.length ≤ 3 ∧ (rt l a).f1.length ≤ 64 := rdv_len l a
theorem bh_last {l : List S74} {n m : Int} {w : S37} (hv : vchk (l ++ [⟨n, w⟩]) = true) (h : n ≤ m) : bh (l ++ [⟨n, w⟩]) m = l.length + 1 :=
  (bh_snoc (a := m) (st := n) (s := w.f0) (d := w.f1) (vchk_iff.mp hv).2.1).1 h
theorem bh_ahead {l : List S74} {n m : Int} {w : S37} (hv : vchk (l ++ [⟨n, w⟩]) = true) (h : m < n) : bh (l ++ [⟨n, w⟩]) m = bh l m :=
  (bh_snoc (a := m) (st := n) (s := w.f0) (d := w.f1) (vchk_iff.mp hv).2.1).2 h
theorem rt_snoc {l : List S74} {n m : Int} {w : S37} (hv : vchk (l ++ [⟨n, w⟩]) = true) (h : n ≤ m) : rt (l ++ [⟨n, w⟩]) m = w := by
  have e := bh_last hv h
  unfold rt
  rw [rdv_ok hv (by omega)]
  have : (l ++ [(⟨n, w⟩ : S74)])[bh (l ++ [⟨n, w⟩]) m - 1]'(by rw [e]; simp) = ⟨n, w⟩ := by
    simp [e]
  rw [this]
theorem Fit.ok {l : List S74} {n : Int} {w : S42} (hv : vchk l = true) (h : Fit n l w) : vchk (l ++ [⟨n, w.f1⟩]) = true :=
  vchk_snoc (s := w.f1.f0) (d := w.f1.f1) hv ⟨h.1, h.2.1, h.2.2.1⟩ h.2.2.2
theorem Fit.later {l : List S74} {n m : Int} {w : S42} (h : Fit n l w) (hm : n ≤ m) : Fit m l w := by
  refine ⟨h.1, h.2.1, h.2.2.1, ?_⟩
  have := h.2.2.2
  simp only [asc, Bool.and_true, decide_eq_true_eq] at this ⊢
  omega
theorem all_at {C : List (List S74)} (h8 : C.length = 8) {l : List S74} (h : l ∈ C) : ∃ p : Nat, p < 8 ∧ cAt C (p : Int) = l := by
  obtain ⟨i, hi, rfl⟩ := List.getElem_of_mem h
  exact ⟨i, by omega, cAt_eq hi⟩
theorem SOk.at_ {C : List (List S74)} {now : Int} {P : List Int} (h : SOk C now P) {p : Int} (hp : isPar p = true) : vchk (cAt C p) = true ∧ bh (cAt C p) now = (cAt C p).length := by
  have h8 := h.c8
  have hq := par_iff.mp hp
  have hm := cAt_mem (C := C) hq.1 (by omega)
  exact ⟨h.vs _ hm, (nw_bh (h.vs _ hm)).mp (h.no _ hm)⟩
theorem SOk.of {C : List (List S74)} {now : Int} {P : List Int} (h8 : C.length = 8) (lo : 0 ≤ now) (hi : now ≤ 1099511627776) (pl : P.length ≤ 64) (ps : Rise P) (pp : ∀ p ∈ P, 0 ≤ p ∧ p ≤ now)
    (h : ∀ p : Int, isPar p = true → vchk (cAt C p) = true ∧ bh (cAt C p) now = (cAt C p).length) : SOk C now P := by
  refine ⟨h8, lo, hi, pl, ps, fun l hl => ?_, fun l hl => ?_, pp⟩
  · obtain ⟨p, hp, rfl⟩ := all_at h8 hl
    exact (h p (par_iff.mpr (by omega))).1
  · obtain ⟨p, hp, rfl⟩ := all_at h8 hl
    have := h p (par_iff.mpr (by omega))
    exact (nw_bh this.1).mpr this.2
theorem fold_len (n : Int) : ∀ (ws : List S42) (C : List (List S74)), (ws.foldl (put1 n) C).length = C.length
  | [], _ => rfl
  | w :: r, C => by rw [List.foldl_cons, fold_len n r]; simp [put1]
theorem fold_out (n : Int) : ∀ (ws : List S42) (C : List (List S74)) (p : Int), C.length = 8 → (∀ w ∈ ws, isPar w.f0 = true) → isPar p = true → p ∉ ws.map (fun w => w.f0) → cAt (ws.foldl (put1 n) C) p = cAt C p
  | [], _, _, _, _, _, _ => rfl
  | w :: r, C, p, h8, hw, hp, hn => by
    rw [List.map_cons, List.mem_cons, not_or] at hn
    rw [List.foldl_cons, fold_out n r _ p (by simp [put1]; exact h8) (fun x hx => hw x (List.mem_cons_of_mem _ hx)) hp hn.2]
    unfold put1
    rw [set_at (par_iff.mp (hw w List.mem_cons_self)) (par_iff.mp hp) h8, if_neg (fun e => hn.1 e.symm)]
theorem fold_in (n : Int) : ∀ (ws : List S42) (C : List (List S74)) (w : S42), C.length = 8 → (∀ w ∈ ws, isPar w.f0 = true) → (ws.map (fun w => w.f0)).Nodup → w ∈ ws → cAt (ws.foldl (put1 n) C) w.f0 = cAt C w.f0 ++ [⟨n, w.f1⟩]
  | [], _, _, _, _, _, h => absurd h (by simp)
  | x :: r, C, w, h8, hw, hd, h => by
    rw [List.map_cons, List.nodup_cons] at hd
    have hx := par_iff.mp (hw x List.mem_cons_self)
    rw [List.foldl_cons]
    rcases List.mem_cons.mp h with rfl | h
    · rw [fold_out n r _ w.f0 (by simp [put1]; exact h8) (fun x hx => hw x (List.mem_cons_of_mem _ hx)) (hw w List.mem_cons_self) hd.1]
      unfold put1
      rw [set_at hx hx h8, if_pos rfl]
    · rw [fold_in n r _ w (by simp [put1]; exact h8) (fun x hx => hw x (List.mem_cons_of_mem _ hx)) hd.2 h]
      unfold put1
      rw [set_at hx (par_iff.mp (hw w (List.mem_cons_of_mem _ h))) h8, if_neg]
      exact fun e => hd.1 (e ▸ List.mem_map_of_mem h)
theorem SOk.commit {C : List (List S74)} {now : Int} {P : List Int} (h : SOk C now P) {ws : List S42} (hn : now < 1099511627776) (hw : ∀ w ∈ ws, isPar w.f0 = true) (hd : (ws.map (fun w => w.f0)).Nodup) (hf : ∀ w ∈ ws, Fit (now + 1) (cAt C w.f0) w) :
    SOk (ws.foldl (put1 (now + 1)) C) (now + 1) P := by
  have hlo := h.lo
  refine SOk.of (by rw [fold_len]; exact h.c8) (by omega) (by omega) h.pl h.ps (fun p hp => by have := h.pp p hp; omega) (fun p hp => ?_)
  have ha := h.at_ hp
  by_cases c : p ∈ ws.map (fun w => w.f0)
  · obtain ⟨w, hw1, rfl⟩ := List.mem_map.mp c
    rw [fold_in _ ws C w h.c8 hw hd hw1]
    have hv := Fit.ok ha.1 (hf w hw1)
    exact ⟨hv, by rw [bh_last hv (Int.le_refl _)]; simp⟩
  · rw [fold_out _ ws C p h.c8 hw hp c]
    have h1 := bh_mono (cAt C p) (show now ≤ now + 1 by omega)
    have h2 := bh_le (cAt C p) (now + 1)
    exact ⟨ha.1, by omega⟩
def cm1 (C : List (List S74)) (now : Int) (P : List Int) (st : Int) (w : S42) : List (List S74) × Int × List Int × Int :=
  if isPar w.f0 = false then (C, now, P, 1) else if now = 1099511627776 then (C, now, P, 1) else if st ∉ P then (C, now, P, 180)
  else if nw (cAt C w.f0) st = true then (C, now, P, 181)
  else if (pv (cAt C w.f0) (now + 1) w.f1.f0 w.f1.f1).2 = 0 then (C.set w.f0.toNat (pv (cAt C w.f0) (now + 1) w.f1.f0 w.f1.f1).1, now + 1, P, 0)
  else (C, now, P, (pv (cAt C w.f0) (now + 1) w.f1.f0 w.f1.f1).2)
theorem named1_f (w : S42) : store_named.f [] [w] = if isPar w.f0 = true then some ([w.f0], true) else some ([], false) := by
  unfold store_named.f
  rw [clone_f [] (by simp), Option.bind_some]
  simp only [nmGo]
  cases c : isPar w.f0 with
  | false => rw [if_neg (by simp), if_neg (by simp)]
  | true => rw [if_pos ⟨rfl, by simp⟩, if_pos (by simp), if_pos rfl]; simp [c]
theorem commit1_f {C : List (List S74)} {now : Int} {P : List Int} (h : SOk C now P) (st : Int) (w : S42) (k : Nat) (hk : 3000 ≤ k) : store_Commit.f k C now P st [] [w] = some (cm1 C now P st w) := by
  have h8 := h.c8
  have hp := h.pl
  have hlo := h.lo
  have hhi := h.hi
  unfold store_Commit.f cm1
  rw [named1_f]
  cases c1 : isPar w.f0 with
  | false => rw [if_neg (by simp), if_pos rfl]; simp only [Option.bind_some]; rw [if_neg (by simp)]
  | true =>
    have hq := par_iff.mp c1
    have hm := cAt_mem (C := C) hq.1 (by omega)
    have hl := h.len _ hm
    rw [if_pos rfl, if_neg (by simp)]
    simp only [Option.bind_some]
    rw [if_pos trivial, h.check (by omega)]
    simp only [Option.bind_some]
    rw [if_pos trivial]
    by_cases c2 : now = 1099511627776
    · rw [if_pos c2, if_pos c2]
    · rw [if_neg c2, if_neg c2]
      obtain ⟨i, _, _, _, hs⟩ := search_f P st h.ps (by omega) k (by omega)
      rw [hs]
      simp only [Option.bind_some]
      by_cases c3 : st ∈ P
      · rw [if_pos (decide_eq_true c3), if_neg (fun q => q c3), newers_f k C st (by omega) (fun l hl => by have := h.len l hl; omega) [w.f0] (fun p hp => by rw [List.mem_singleton] at hp; subst hp; omega)]
        simp only [Option.bind_some, List.any_cons, List.any_nil, Bool.or_false]
        by_cases c4 : nw (cAt C w.f0) st = true
        · rw [if_pos c4, if_pos c4]
        · rw [if_neg c4, if_neg c4, show wrap64 (now + 1) = now + 1 from w64 (by omega) (by omega)]
          simp only [cmGo]
          rw [put_f _ (now + 1) _ _ (by omega) k (by omega)]
          simp only [Option.bind_some]
          by_cases c5 : (pv (cAt C w.f0) (now + 1) w.f1.f0 w.f1.f1).2 = 0
          · rw [if_pos c5, if_pos c5]; simp only [Option.bind_some]; rw [if_pos trivial]
          · rw [if_neg c5, if_neg c5]; simp only [Option.bind_some]; rw [if_neg c5]
      · rw [if_neg (by simpa using c3), if_pos c3]
theorem cm1_two {C : List (List S74)} {now : Int} {P : List Int} (h : SOk C now P) (st : Int) (w : S42) :
    (∃ e, cm1 C now P st w = (C, now, P, e) ∧ ¬ e = 0) ∨ (cm1 C now P st w = (C.set w.f0.toNat (cAt C w.f0 ++ [⟨now + 1, w.f1⟩]), now + 1, P, 0) ∧ isPar w.f0 = true ∧ now < 1099511627776 ∧ st ∈ P ∧ nw (cAt C w.f0) st = false ∧ Fit (now + 1) (cAt C w.f0) w) := by
  have hhi := h.hi
  unfold cm1
  by_cases c1 : isPar w.f0 = false
  · rw [if_pos c1]; exact .inl ⟨1, rfl, by decide⟩
  · rw [if_neg c1]
    have c1' : isPar w.f0 = true := by simpa using c1
    by_cases c2 : now = 1099511627776
    · rw [if_pos c2]; exact .inl ⟨1, rfl, by decide⟩
    · rw [if_neg c2]
      by_cases c3 : st ∈ P
      · rw [if_neg (fun q => q c3)]
        by_cases c4 : nw (cAt C w.f0) st = true
        · rw [if_pos c4]; exact .inl ⟨181, rfl, by decide⟩
        · rw [if_neg c4]
          rcases pv_two (cAt C w.f0) (now + 1) w (h.at_ c1').1 with ⟨p1, p2⟩ | ⟨p1, p2⟩
          · rw [if_neg p2]; exact .inl ⟨_, rfl, p2⟩
          · rw [p1, if_pos rfl]; exact .inr ⟨rfl, c1', by omega, c3, by simpa using c4, p2⟩
      · rw [if_pos c3]; exact .inl ⟨180, rfl, by decide⟩
theorem cm1_good {C : List (List S74)} {now : Int} {P : List Int} {st : Int} {w : S42} (h1 : isPar w.f0 = true) (h2 : ¬ now = 1099511627776) (h3 : st ∈ P) (h4 : nw (cAt C w.f0) st = false) (hv : vchk (cAt C w.f0) = true) (hn : 0 ≤ now) (h5 : Fit (now + 1) (cAt C w.f0) w) :
    cm1 C now P st w = (C.set w.f0.toNat (cAt C w.f0 ++ [⟨now + 1, w.f1⟩]), now + 1, P, 0) := by
  unfold cm1
  rw [if_neg (by simp [h1]), if_neg h2, if_neg (fun q => q h3), if_neg (by simp [h4]), pv_fit hv (by omega) h5, if_pos rfl]
theorem cm1_stale {C : List (List S74)} {now : Int} {P : List Int} {st : Int} {w : S42} (h1 : isPar w.f0 = true) (h2 : ¬ now = 1099511627776) (h3 : st ∈ P) (h4 : nw (cAt C w.f0) st = true) : cm1 C now P st w = (C, now, P, 181) := by
  unfold cm1
  rw [if_neg (by simp [h1]), if_neg h2, if_neg (fun q => q h3), if_pos h4]
theorem SOk.one {C : List (List S74)} {now : Int} {P : List Int} (h : SOk C now P) {w : S42} (hn : now < 1099511627776) (hw : isPar w.f0 = true) (hf : Fit (now + 1) (cAt C w.f0) w) : SOk (C.set w.f0.toNat (cAt C w.f0 ++ [⟨now + 1, w.f1⟩])) (now + 1) P :=
  h.commit (ws := [w]) hn (fun x hx => by rw [List.mem_singleton] at hx; subst hx; exact hw) (by simp) (fun x hx => by rw [List.mem_singleton] at hx; subst hx; exact hf)
end Go.Proofs.Ytmolbbebglfhmaa.Plain
