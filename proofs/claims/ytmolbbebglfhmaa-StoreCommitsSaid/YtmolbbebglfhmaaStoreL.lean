/- The loops of StoreCommits, and what StorePins asks of a row of stamps, in plain words; no conditions. -/
import Derived.Test.YtmolbbebglfhmaaStoreB
import Derived.Test.YtmolbbebglfhmaaStoreF
import Derived.Test.YtmolbbebglfhmaaAx14
namespace Go.Proofs.Ytmolbbebglfhmaa.Plain
open Go.RowKit Go.Proofs.Ytmolbbebglfhmaa.A Go.Proofs.YtmolbbebglfhmaaW.PrintWords Go.Proofs.YtmolbbebglfhmaaW.PrintLast Go.Proofs.YtmolbbebglfhmaaW.PrintMore
set_option linter.unusedVariables false
set_option linter.unusedSimpArgs false
theorem inner_f (st : Int) (reads : List Int) (ws : List S42) (A B : List S37) (p : Nat) (hA : p < A.length) (hB : p < B.length) (C : List (List S74)) (now : Int) (P : List Int) (o0 o1 : List Int) (hml : ws.length ≤ 20)
    (hAl : A[p].f0.length ≤ 100 ∧ A[p].f1.length ≤ 100) (hBl : B[p].f0.length ≤ 100 ∧ B[p].f1.length ≤ 100)
    (hold : ((p : Int) ∈ reads ∨ (p : Int) ∈ ws.map (fun w => w.f0)) → A[p].f0 = o0 ∧ A[p].f1 = o1)
    (hout : (p : Int) ∉ ws.map (fun w => w.f0) → B[p] = A[p])
    (hin : ∀ w ∈ ws, w.f0 = (p : Int) → B[p] = w.f1) (hp : p < 8) (m : Nat) (hm : 1000 ≤ m)
    (hrest : ∀ k, m ≤ k → k ≤ 9223372036854775806 → fullerlaw18_StoreCommits.l0 k st reads ws true A B ((p + 1 : Nat) : Int) C now P = some true) :
    ∀ (d k i : Nat) (nm : Bool) (w0 w1 : List Int), ws.length - i = d → i ≤ ws.length → m + d + 10 ≤ k → k ≤ 9223372036854775806 → (nm = true → ((p : Int) ∈ reads ∨ (p : Int) ∈ ws.map (fun w => w.f0))) →
      (((∀ j : Nat, j < i → ∀ h : j < ws.length, ¬ ws[j].f0 = (p : Int)) ∧ A[p].f0 = w0 ∧ A[p].f1 = w1) ∨ ∃ w ∈ ws, w.f0 = (p : Int) ∧ w.f1.f0 = w0 ∧ w.f1.f1 = w1) →
      fullerlaw18_StoreCommits.l1 k st reads ws true A B (p : Int) nm (i : Int) C now P w0 w1 o0 o1 = some true
  | 0, 0, i, nm, w0, w1, hd, hi, hk, _, _, _ => by omega
  | d + 1, 0, i, nm, w0, w1, hd, hi, hk, _, _, _ => by omega
  | 0, k + 1, i, nm, w0, w1, hd, hi, hk, hk2, hnm, hw => by
    simp only [fullerlaw18_StoreCommits.l1]
    rw [if_neg (by omega), if_pos (by omega), if_pos (by omega), rdT hB]
    have hBw : B[p].f0 = w0 ∧ B[p].f1 = w1 := by
      rcases hw with ⟨h1, h2, h3⟩ | ⟨w, h1, h2, h3, h4⟩
      · have hn : (p : Int) ∉ ws.map (fun w => w.f0) := fun hmem => by
          obtain ⟨w, hw1, hw2⟩ := List.mem_map.mp hmem
          obtain ⟨j, hj, rfl⟩ := List.getElem_of_mem hw1
          exact h1 j (by omega) hj hw2
        rw [hout hn]; exact ⟨h2, h3⟩
      · rw [hin w h1 h2]; exact ⟨h3, h4⟩
    rw [tsame_iff _ _ _ _ k (by omega) (by omega), decide_eq_true hBw.1, decide_eq_true hBw.2]
    simp only [Option.bind_some, Bool.and_self, if_true]
    have hj4 : fullerlaw18_StoreCommits.j4 k st reads ws true A B (p : Int) false C now P = some true := by
      obtain ⟨k, rfl⟩ : ∃ m, k = m + 1 := ⟨k - 1, by omega⟩
      simp only [fullerlaw18_StoreCommits.j4]
      rw [if_neg (by simp), show wrap64 ((p : Int) + 1) = ((p + 1 : Nat) : Int) from up1 (by omega)]
      exact hrest k (by omega) (by omega)
    cases nm with
    | false => rw [if_neg (by simp)]; exact hj4
    | true =>
      have ho := hold (hnm rfl)
      rw [if_pos rfl, if_pos (by omega), rdT hA, tsame_iff _ _ _ _ k (by omega) (by omega), decide_eq_true ho.1, decide_eq_true ho.2]
      simp only [Option.bind_some, Bool.and_self, Bool.not_true]
      exact hj4
  | d + 1, k + 1, i, nm, w0, w1, hd, hi, hk, hk2, hnm, hw => by
    have hlt : i < ws.length := by omega
    simp only [fullerlaw18_StoreCommits.l1]
    rw [if_pos (by omega), if_pos (by omega), rdW hlt, show wrap64 ((i : Int) + 1) = ((i + 1 : Nat) : Int) from up1 (by omega)]
    by_cases c : ws[i].f0 = (p : Int)
    · rw [if_pos c]
      exact inner_f st reads ws A B p hA hB C now P o0 o1 hml hAl hBl hold hout hin hp m hm hrest d k (i + 1) true _ _ (by omega) (by omega) (by omega) (by omega) (fun _ => .inr (List.mem_map.mpr ⟨_, List.getElem_mem hlt, c⟩)) (.inr ⟨_, List.getElem_mem hlt, c, rfl, rfl⟩)
    · rw [if_neg c]
      refine inner_f st reads ws A B p hA hB C now P o0 o1 hml hAl hBl hold hout hin hp m hm hrest d k (i + 1) nm _ _ (by omega) (by omega) (by omega) (by omega) hnm ?_
      rcases hw with ⟨h1, h2⟩ | h
      · refine .inl ⟨fun j hj hjl => ?_, h2⟩
        by_cases e : j = i
        · subst e; exact c
        · exact h1 j (by omega) hjl
      · exact .inr h
theorem outer_f {C : List (List S74)} {now : Int} {P : List Int} (h : SOk C now P) (st : Int) (reads : List Int) (ws : List S42) (hr : reads.length ≤ 20) (hml : ws.length ≤ 20) (hP : st ∈ P)
    (hpar : ∀ w ∈ ws, isPar w.f0 = true) (hnd : (ws.map (fun w => w.f0)).Nodup) (hnw : ∀ p ∈ reads ++ ws.map (fun w => w.f0), nw (cAt C p) st = false) (hn : now < 1099511627776) (hf : ∀ w ∈ ws, Fit (now + 1) (cAt C w.f0) w) :
    ∀ (d k p : Nat), 8 - p = d → p ≤ 8 → 2000 + d * 100 ≤ k → k ≤ 9223372036854775806 →
      fullerlaw18_StoreCommits.l0 k st reads ws true (C.map fun l => rt l now) ((ws.foldl (put1 (now + 1)) C).map fun l => rt l (now + 1)) (p : Int) C now P = some true
  | d, 0, p, _, _, hk, _ => by omega
  | 0, k + 1, p, hd, hp, hk, hk2 => by
    have hpl := h.pl
    simp only [fullerlaw18_StoreCommits.l0]
    rw [if_neg (by omega), if_pos trivial, in_f P st (by omega) k (by omega), decide_eq_true hP]
    rfl
  | d + 1, k + 1, p, hd, hp, hk, hk2 => by
    have h8 := h.c8
    have hp8 : p < 8 := by omega
    have hpar_p : isPar (p : Int) = true := par_iff.mpr (by omega)
    have hC' : (ws.foldl (put1 (now + 1)) C).length = 8 := by rw [fold_len]; exact h8
    have hS := h.commit hn hpar hnd hf
    have ha := h.at_ hpar_p
    have hA : p < (C.map fun l => rt l now).length := by rw [List.length_map]; omega
    have hB : p < ((ws.foldl (put1 (now + 1)) C).map fun l => rt l (now + 1)).length := by rw [List.length_map]; omega
    have eA : (C.map fun l => rt l now)[p] = rt (cAt C (p : Int)) now := by rw [List.getElem_map, cAt_eq]
    have eB : ((ws.foldl (put1 (now + 1)) C).map fun l => rt l (now + 1))[p] = rt (cAt (ws.foldl (put1 (now + 1)) C) (p : Int)) (now + 1) := by rw [List.getElem_map, cAt_eq]
    have lA := rt_len (cAt C (p : Int)) now
    have lB := rt_len (cAt (ws.foldl (put1 (now + 1)) C) (p : Int)) (now + 1)
    simp only [fullerlaw18_StoreCommits.l0]
    rw [if_pos (by omega), if_pos (by omega), if_pos (by omega), sread_f h p hp8 st k (by omega), in_f reads (p : Int) (by omega) k (by omega), rdT hA]
    simp only [Option.bind_some]
    refine inner_f st reads ws _ _ p hA hB C now P _ _ hml (by rw [eA]; omega) (by rw [eB]; omega) ?_ ?_ ?_ hp8 (2000 + d * 100) (by omega) (fun k' h1 h2 => outer_f h st reads ws hr hml hP hpar hnd hnw hn hf d k' (p + 1) (by omega) (by omega) h1 h2) ws.length k 0 _ _ _ (by omega) (by omega) (by omega) (by omega) (fun hh => .inl (of_decide_eq_true hh)) (.inl ⟨fun j hj => by omega, rfl, rfl⟩)
    · intro hm
      have hq := hnw (p : Int) (List.mem_append.mpr hm)
      rw [eA, rt_bh (a := now) (b := st) (by rw [ha.2, (nw_bh ha.1).mp hq])]
      exact ⟨rfl, rfl⟩
    · intro hm
      rw [eA, eB, fold_out (now + 1) ws C (p : Int) h8 hpar hpar_p hm]
      have h1 := bh_mono (cAt C (p : Int)) (show now ≤ now + 1 by omega)
      have h2 := bh_le (cAt C (p : Int)) (now + 1)
      exact rt_bh (by omega)
    · intro w hw hwp
      rw [eB, ← hwp, fold_in (now + 1) ws C w h8 hpar hnd hw]
      exact rt_snoc (Fit.ok (h.at_ (hpar w hw)).1 (hf w hw)) (Int.le_refl _)
end Go.Proofs.Ytmolbbebglfhmaa.Plain
