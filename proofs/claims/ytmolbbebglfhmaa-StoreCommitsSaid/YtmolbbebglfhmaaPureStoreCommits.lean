/- For all stores, stamps, reads and writes StoreCommits answers true; no conditions but the sizes that the statement names. -/
import Derived.Test.YtmolbbebglfhmaaStoreAwake
import Derived.Test.YtmolbbebglfhmaaStoreB
import Derived.Test.YtmolbbebglfhmaaStoreF
import Derived.Test.YtmolbbebglfhmaaAx14
import Derived.Test.YtmolbbebglfhmaaStoreL
namespace Go.Proofs.Ytmolbbebglfhmaa.Pure
open Go.RowKit Go.Proofs.Ytmolbbebglfhmaa.A Go.Proofs.Ytmolbbebglfhmaa.Plain Go.Proofs.YtmolbbebglfhmaaW.PrintWords Go.Proofs.YtmolbbebglfhmaaW.PrintLast Go.Proofs.YtmolbbebglfhmaaW.PrintMore
set_option linter.unusedVariables false
set_option linter.unusedSimpArgs false
theorem StoreCommits : fullerlaw18_StoreCommits.Pure := by
  intro C now P st reads ws hC hnow hP hst hreads hws
  have hM : ∀ l ∈ C, l.length ≤ 2513169434843 := fun l hl => by have := (hC.2 l hl).1; omega
  have hCl : C.length ≤ 5864062014634 := by have := hC.1; omega
  clear hC hnow hP hst
  obtain ⟨K, hK1, hK2⟩ : ∃ K : Nat, C.length + 2513169440000 ≤ K ∧ K ≤ 9223372036854775000 := ⟨C.length + 2513169450000, by omega, by omega⟩
  refine ⟨K + 1, ?_⟩
  have hwl : ws.length ≤ 2513169434843 := by have := hws.1; omega
  clear hws
  unfold fullerlaw18_StoreCommits.f
  rw [awake_f _ (by omega)]
  simp only [Option.bind_some]
  obtain ⟨b, hb, hbi⟩ := sfew_f C now P 2513169434843 hM (by omega) (by omega) (K + 1) (by omega)
  rw [hb]
  simp only [Option.bind_some]
  have hup : fullerlaw18_StoreCommits.j0 (K + 1) st reads ws true true C now P = some true := by rw [fullerlaw18_StoreCommits.j0, if_pos rfl]
  cases b with
  | false => rw [if_neg (by simp)]; exact hup
  | true =>
    obtain ⟨f1, f2, f3⟩ := hbi rfl
    rw [if_pos rfl]
    by_cases cr : (reads.length : Int) > 20
    · rw [if_pos cr]; exact hup
    · rw [if_neg cr]
      obtain ⟨b2, hb2, hbi2⟩ := wfew_f ws 20 (by omega) (K + 1) (by omega)
      rw [hb2]
      simp only [Option.bind_some]
      cases b2 with
      | false => rw [if_neg (by simp)]; exact hup
      | true =>
        have hw20 : ws.length ≤ 20 := by have := (hbi2 rfl).2; omega
        rw [if_pos rfl]
        obtain ⟨c, hc, hci⟩ := check_any (now := now) (P := P) (fun l hl => by have := (fewV_iff (f1 l hl)).1; omega) (K + 1) (by omega)
        rw [hc]
        simp only [Option.bind_some]
        cases c with
        | false => exact hup
        | true =>
          have h := hci.mp rfl
          have h8 := h.c8
          have hlo := h.lo
          clear hb hbi hc hci hM f1 hup hb2 hbi2
          obtain ⟨K, rfl⟩ : ∃ m, K = m + 3 := ⟨K - 3, by omega⟩
          rw [fullerlaw18_StoreCommits.j0, if_neg (by simp)]
          obtain ⟨r, hr, hcase⟩ := commit_f h st reads ws (by omega) (by omega) (K + 3) (by omega)
          rw [hr, Option.bind_some, all_f h now (K + 3) (by omega), Option.bind_some]
          rcases hcase with ⟨e, rfl, he⟩ | ⟨rfl, hn, hP, hpn, hnd, hf⟩
          · rw [if_neg he, if_pos rfl, h.same (K + 3) (by omega) (by omega)]; rfl
          · have hpar : ∀ w ∈ ws, isPar w.f0 = true := fun w hw => (hpn _ (List.mem_append_right _ (List.mem_map_of_mem hw))).1
            have hS := h.commit hn hpar hnd hf
            rw [if_pos rfl]
            rw [all_f hS (now + 1) (K + 3) (by omega), Option.bind_some]
            rw [if_pos (by rw [List.length_map, fold_len, h8]; rfl), if_pos (by rw [List.length_map, h8]; rfl), show wrap64 (now + 1) = now + 1 from w64 (by omega) (by omega)]
            rw [fullerlaw18_StoreCommits.j1, if_neg (by simp)]
            exact outer_f h st reads ws (by omega) hw20 hP hpar hnd (fun p hp => (hpn p hp).2) hn hf 8 (K + 2) 0 (by omega) (by omega) (by omega) (by omega)
end Go.Proofs.Ytmolbbebglfhmaa.Pure
