/- For all stores and stamps StorePins answers true; no conditions but the sizes that the statement names. -/
import Derived.Test.YtmolbbebglfhmaaStoreAwake
import Derived.Test.YtmolbbebglfhmaaStoreB
import Derived.Test.YtmolbbebglfhmaaStoreF
import Derived.Test.YtmolbbebglfhmaaAx15
import Derived.Test.YtmolbbebglfhmaaStoreL
namespace Go.Proofs.Ytmolbbebglfhmaa.Pure
open Go.RowKit Go.Proofs.Ytmolbbebglfhmaa.A Go.Proofs.Ytmolbbebglfhmaa.Plain Go.Proofs.YtmolbbebglfhmaaW.PrintWords Go.Proofs.YtmolbbebglfhmaaW.PrintLast Go.Proofs.YtmolbbebglfhmaaW.PrintMore
set_option linter.unusedVariables false
set_option linter.unusedSimpArgs false
theorem StorePins : fullerlaw18_StorePins.Pure := by
  intro C now P st hC hnow hP hst
  have hM : ∀ l ∈ C, l.length ≤ 2513169434843 := fun l hl => by have := (hC.2 l hl).1; omega
  have hCl : C.length ≤ 5864062014634 := by have := hC.1; omega
  clear hC hnow hP hst
  obtain ⟨K, hK1, hK2⟩ : ∃ K : Nat, C.length + 2513169440000 ≤ K ∧ K ≤ 9223372036854775000 := ⟨C.length + 2513169450000, by omega, by omega⟩
  refine ⟨K + 1, ?_⟩
  unfold fullerlaw18_StorePins.f
  rw [awake_f _ (by omega)]
  simp only [Option.bind_some]
  obtain ⟨b, hb, hbi⟩ := sfew_f C now P 2513169434843 hM (by omega) (by omega) (K + 1) (by omega)
  rw [hb]
  simp only [Option.bind_some]
  cases b with
  | false => rw [if_neg (by simp), fullerlaw18_StorePins.j0, if_pos rfl]
  | true =>
    obtain ⟨f1, f2, f3⟩ := hbi rfl
    rw [if_pos rfl]
    obtain ⟨c, hc, hci⟩ := check_any (now := now) (P := P) (fun l hl => by have := (fewV_iff (f1 l hl)).1; omega) (K + 1) (by omega)
    rw [hc]
    simp only [Option.bind_some]
    cases c with
    | false => rw [fullerlaw18_StorePins.j0, if_pos (by simp)]
    | true =>
      have h := hci.mp rfl
      have hpl := h.pl
      clear hb hbi hc hci hM f1
      obtain ⟨K, rfl⟩ : ∃ m, K = m + 1 := ⟨K - 1, by omega⟩
      rw [fullerlaw18_StorePins.j0, if_neg (by simp)]
      obtain ⟨i, _, _, hi, hfree⟩ := free_f h st (K + 1) (by omega)
      have hin : fullerref10_In.f (K + 1) P st = some (decide (st ∈ P)) := in_f P st (by omega) _ (by omega)
      have hsame := h.same (K + 1) (by omega) (by omega)
      by_cases c64 : P.length = 64
      · have hp : store_Pin.f (K + 1) C now P = some (C, now, P, 0, 171) := by rw [pin_f h _ (by omega), if_pos c64]
        obtain ⟨X, hX⟩ : ∃ X, store_Free.f (K + 1) C now P 0 = some X := by
          obtain ⟨i, _, _, _, hq⟩ := free_f h 0 (K + 1) (by omega)
          exact ⟨_, hq⟩
        have hj : ∀ a b c d e, fullerlaw18_StorePins.j1 (K + 1) true 0 171 e true C now P a b c d X.2.1 X.2.2.1 = some true := fun a b c d e => by
          rw [fullerlaw18_StorePins.j1, if_neg (by decide), if_pos rfl, if_pos rfl, if_pos rfl, c64]; rfl
        rw [hp, Option.bind_some]
        rw [hX, Option.bind_some, hfree, Option.bind_some, hin, Option.bind_some]
        by_cases cm : st ∈ P
        · have hlen : ((P.take i ++ P.drop (i + 1)).length : Int) = wrap64 ((P.length : Int) - 1) := by
            have := hi cm
            rw [List.length_append, List.length_take, List.length_drop, w64 (by omega) (by omega)]; omega
          rw [if_pos cm, decide_eq_true cm, if_pos (show (((0 : Int) == 0) == true) = true by decide), if_pos rfl, if_pos hlen]
          exact hj _ _ _ _ _
        · rw [if_neg cm, decide_eq_false cm, if_pos (show (((180 : Int) == 0) == false) = true by decide), if_neg (show ¬ (180 : Int) = 0 by decide), if_pos rfl, hsame, Option.bind_some]
          exact hj _ _ _ _ _
      · have hp : store_Pin.f (K + 1) C now P = some (C, now, P ++ [now], now, 0) := by rw [pin_f h _ (by omega), if_neg c64]
        have hS := h.pin c64
        have hmem : now ∈ P ++ [now] := by simp
        have hX : store_Free.f (K + 1) C now (P ++ [now]) now = some (C, now, P, 0) := by
          obtain ⟨i, _, h2, h3, hq⟩ := free_f hS now (K + 1) (by omega)
          rw [hq, if_pos hmem, del_last (fun p hp => (h.pp p hp).2) (h3 hmem) h2]
        have hj : fullerlaw18_StorePins.j1 (K + 1) true now 0 0 true C now P C now (P ++ [now]) C now P = some true := by
          rw [fullerlaw18_StorePins.j1, if_pos rfl, if_pos rfl, if_pos rfl, if_pos rfl, if_pos rfl, if_pos (by rw [List.length_append, List.length_singleton, up1 (by omega)]), h.same K (by omega) (by omega)]; rfl
        rw [hp, Option.bind_some]
        rw [hX, Option.bind_some, hfree, Option.bind_some, hin, Option.bind_some]
        by_cases cm : st ∈ P
        · have hlen : ((P.take i ++ P.drop (i + 1)).length : Int) = wrap64 ((P.length : Int) - 1) := by
            have := hi cm
            rw [List.length_append, List.length_take, List.length_drop, w64 (by omega) (by omega)]; omega
          rw [if_pos cm, decide_eq_true cm, if_pos (show (((0 : Int) == 0) == true) = true by decide), if_pos rfl, if_pos hlen]
          exact hj
        · rw [if_neg cm, decide_eq_false cm, if_pos (show (((180 : Int) == 0) == false) = true by decide), if_neg (show ¬ (180 : Int) = 0 by decide), if_pos rfl, hsame, Option.bind_some]
          exact hj
end Go.Proofs.Ytmolbbebglfhmaa.Pure
