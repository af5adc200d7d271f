/- Lean functions that answer as the Go functions do, and the proofs that they do; no conditions. Written by this session's own driver: a scratch copy of the kit's print with the session's additions (wip/xprint). -/
import Derived.Test.YtfoffgbhfokccaaAx0
import Derived.Test.YtfoffgbhfokccaaAx2
import Derived.Test.YtfoffgbhfokccaaAx3
import Derived.Test.YtfoffgbhfokccaaAx9
namespace Go.Proofs.Ytfoffgbhfokccaa.A
open Go.RowKit Go.Proofs.YtfoffgbhfokccaaW.PrintWords Go.Proofs.YtfoffgbhfokccaaW.PrintLast Go.Proofs.YtfoffgbhfokccaaW.PrintMore
attribute [local go_sem] max2_int min2_int max_two min_two max_three min_three max_four min_four   -- for this text's walks alone
set_option linter.unusedVariables false
set_option linter.unusedSimpArgs false

/-! ### pack_Take: function 30 (given) -/
/-- What is taken of bytes. -/
def pkTake (l0 : List Int) (a1 : Int) : Int × List Int × Int := if okSize a1 = true ∧ a1 ≤ (l0.length : Int) then (tkl 0 (l0.take a1.toNat), l0.drop a1.toNat, 0) else (0, [], 40)
def pack_Take.f (l0 : List Int) (a1 : Int) : Option (Int × List Int × Int) := if l0.length < 140737488355328 then some (pkTake l0 a1) else none
section
variable (w : World) (x y z : Value) (t u v : TypeId) (nd : Nat)
theorem t3_a : ((((w.alloc (.cells #[x] t)).alloc (.cells #[y] u)).alloc (.cells #[z] v)).drewN nd).cell? ⟨w.heap.size, 0, none⟩ = some x := by
  rw [World.cell?_drewN, World.cell?_alloc_past _ _ _ (by simp; omega), World.cell?_alloc_past _ _ _ (by simp), World.cell?_alloc_at _ _ _ _ rfl]; rfl
theorem t3_b : ((((w.alloc (.cells #[x] t)).alloc (.cells #[y] u)).alloc (.cells #[z] v)).drewN nd).cell? ⟨w.heap.size + 1, 0, none⟩ = some y := by
  rw [World.cell?_drewN, World.cell?_alloc_past _ _ _ (by simp), World.cell?_alloc_at _ _ _ _ (by simp)]; rfl
theorem t3_c : ((((w.alloc (.cells #[x] t)).alloc (.cells #[y] u)).alloc (.cells #[z] v)).drewN nd).cell? ⟨w.heap.size + 1 + 1, 0, none⟩ = some z := by
  rw [World.cell?_drewN, World.cell?_alloc_at _ _ _ _ (by simp)]; rfl
theorem s3_a : ((((w.alloc (.cells #[x] t)).alloc (.cells #[y] u)).alloc (.cells #[z] v)).drewN nd).frozen? ⟨w.heap.size, 0, none⟩ = false := by
  rw [World.frozen?_drewN, World.frozen?_alloc_past _ _ _ (by simp; omega), World.frozen?_alloc_past _ _ _ (by simp), World.frozen?_alloc_at _ _ _ _ rfl]
theorem s3_b : ((((w.alloc (.cells #[x] t)).alloc (.cells #[y] u)).alloc (.cells #[z] v)).drewN nd).frozen? ⟨w.heap.size + 1, 0, none⟩ = false := by
  rw [World.frozen?_drewN, World.frozen?_alloc_past _ _ _ (by simp), World.frozen?_alloc_at _ _ _ _ (by simp)]
theorem s3_c : ((((w.alloc (.cells #[x] t)).alloc (.cells #[y] u)).alloc (.cells #[z] v)).drewN nd).frozen? ⟨w.heap.size + 1 + 1, 0, none⟩ = false := by
  rw [World.frozen?_drewN, World.frozen?_alloc_at _ _ _ _ (by simp)]
end
theorem take_nil_ok (p q : Addr) (x y : Value) (w : World) (hpq : p ≠ q) (hc : w.cell? p = some x) (hf : w.frozen? p = false) (hd : w.cell? q = some y) (hg : w.frozen? q = false) :
    Calls Try.prog 46 #[.pointer (some p), .pointer (some q)] w fun e w' => e = .returned (.tuple #[]) ∧ (w.setCell p (.int .i64 0)).setCell q (.slice none 0 0) = w' := by
  have hd2 : (w.setCell p (.int .i64 0)).cell? q = some y := by rw [World.cell?_setCell_other _ _ _ _ hpq]; exact hd
  have hg2 : (w.setCell p (.int .i64 0)).frozen? q = false := by rw [World.frozen?_setCell]; exact hg
  go_enter Try.func46, Try.ntmps46
  go_wp2
  go_end0
  exact ⟨rfl, rfl⟩
theorem res_three (tm : Array Value) (W : World) (a b c : Addr) (x y z : Value) (t4 : tm[4]?.getD undef = .pointer (some a)) (t5 : tm[5]?.getD undef = .pointer (some b)) (t6 : tm[6]?.getD undef = .pointer (some c))
    (k4 : W.cell? a = some x) (k5 : W.cell? b = some y) (k6 : W.cell? c = some z) :
    (results Try.f30 tm).run Try.prog W = .ok (.tuple #[x, y, z]) W := by
  simp [results, Try.results30, go_sem, t4, t5, t6, k4, k5, k6]
theorem take_tail_no (w w1 : World) (x y : Value) (tm : Array Value) (c4 : w1.cell? ⟨w.heap.size, 0, none⟩ = some x) (f4 : w1.frozen? ⟨w.heap.size, 0, none⟩ = false)
    (c5 : w1.cell? ⟨w.heap.size + 1, 0, none⟩ = some y) (f5 : w1.frozen? ⟨w.heap.size + 1, 0, none⟩ = false)
    (c6 : w1.cell? ⟨w.heap.size + 1 + 1, 0, none⟩ = some (.int .i64 0)) (f6 : w1.frozen? ⟨w.heap.size + 1 + 1, 0, none⟩ = false) (z1 : w.heap.size + 3 ≤ w1.heap.size) (hb : Below w.heap.size w w1)
    (t4 : tm[4]?.getD undef = .pointer (some ⟨w.heap.size, 0, none⟩)) (t5 : tm[5]?.getD undef = .pointer (some ⟨w.heap.size + 1, 0, none⟩)) (t6 : tm[6]?.getD undef = .pointer (some ⟨w.heap.size + 1 + 1, 0, none⟩)) :
    Leaves Try.prog Try.f30 tm (fun e w' => ∃ v1_ : Value, e = .returned (.tuple #[.int .i64 0, v1_, .int .i64 40]) ∧ Kd.R (Kd.int .u8) 5 w' w.heap.size (fun _ => True) v1_ [] ∧ Below w.heap.size w w')
      [{ target := Target.fn (Fn.func 37) #[], args := #[.pointer (some ⟨w.heap.size + 1 + 1, 0, none⟩), .func (Fn.func 46) #[] #[.pointer (some ⟨w.heap.size, 0, none⟩), .pointer (some ⟨w.heap.size + 1, 0, none⟩)]] }] (.panicking [wrongE]) w1 := by
  have h1 : w.heap.size < w1.heap.size := by omega
  have h2 : w.heap.size + 1 < w1.heap.size := by omega
  have h3 : w.heap.size + 1 + 1 < w1.heap.size := by omega
  refine leaves_cons (f := 37) (args := #[.pointer (some ⟨w.heap.size + 1 + 1, 0, none⟩), .func (Fn.func 46) #[] #[.pointer (some ⟨w.heap.size, 0, none⟩), .pointer (some ⟨w.heap.size + 1, 0, none⟩)]]) (by simp) (by simp [go_sem]) ?_
  refine (pack_told.wrong ⟨w.heap.size + 1 + 1, 0, none⟩ 46 #[.pointer (some ⟨w.heap.size, 0, none⟩), .pointer (some ⟨w.heap.size + 1, 0, none⟩)] (.int .i64 0) [] w1 (fun w2 => ((w1.alloc (.cells #[] 65)).setCell ⟨w.heap.size, 0, none⟩ (.int .i64 0)).setCell ⟨w.heap.size + 1, 0, none⟩ (.slice none 0 0) = w2) (fun W => by simp [go_sem]) ?_).mono ?_
  · refine (take_nil_ok ⟨w.heap.size, 0, none⟩ ⟨w.heap.size + 1, 0, none⟩ x y _ (by simp) (by rw [World.cell?_alloc_lt _ _ _ h1]; exact c4) (by rw [World.frozen?_alloc_old _ _ _ (Nat.ne_of_lt h1)]; exact f4)
      (by rw [World.cell?_alloc_lt _ _ _ h2]; exact c5) (by rw [World.frozen?_alloc_old _ _ _ (Nat.ne_of_lt h2)]; exact f5)).mono ?_
    rintro e w' ⟨rfl, rfl⟩
    refine ⟨rfl, rfl, ?_, ?_⟩
    · rw [World.cell?_setCell_other _ _ _ _ (by simp), World.cell?_setCell_other _ _ _ _ (by simp), World.cell?_alloc_lt _ _ _ h3]; exact c6
    · rw [World.frozen?_setCell, World.frozen?_setCell, World.frozen?_alloc_old _ _ _ (Nat.ne_of_lt h3)]; exact f6
  · rintro e u' w' ⟨rfl, rfl, w2, rfl, rfl⟩
    have hs : settle (.panicking [wrongR]) = .returning := rfl
    simp only [hs]
    refine ⟨.tuple #[.int .i64 0, .slice none 0 0, .int .i64 40], ?_, .slice none 0 0, rfl, Kd.R_nil _ _ _ _ _, ?_⟩
    · refine res_three _ _ _ _ _ _ _ _ t4 t5 t6 ?_ ?_ ?_
      · rw [World.cell?_setCell_other _ _ _ _ (by simp), World.cell?_setCell_other _ _ _ _ (by simp)]
        exact World.cell?_setCell_same _ _ _ (u := x) (by rw [World.cell?_alloc_lt _ _ _ h1]; exact c4)
      · rw [World.cell?_setCell_other _ _ _ _ (by simp)]
        exact World.cell?_setCell_same _ _ _ (u := y) (by rw [World.cell?_setCell_other _ _ _ _ (by simp), World.cell?_alloc_lt _ _ _ h2]; exact c5)
      · exact World.cell?_setCell_same _ _ _ (u := .int .i64 0) (by rw [World.cell?_setCell_other _ _ _ _ (by simp), World.cell?_setCell_other _ _ _ _ (by simp), World.cell?_alloc_lt _ _ _ h3]; exact c6)
    · exact (((hb.alloc (by omega) _).setCell (p := ⟨w.heap.size, 0, none⟩) (Nat.le_refl _) _).setCell (p := ⟨w.heap.size + 1, 0, none⟩) (by simp) _).setCell (p := ⟨w.heap.size + 1 + 1, 0, none⟩) (by simp; omega) _
set_option maxHeartbeats 8000000 in
set_option maxRecDepth 100000 in
theorem pack_Take.calls (A0 : Option Addr) (c0 : Nat) (l0 : List Int) (a1 : Int) (r1 : Int) (r2 : List Int) (r3 : Int) (w : World) (hr0 : Kd.C (Kd.int .u8) w A0 l0.length l0) (hc0 : l0.length ≤ c0) (h : pack_Take.f l0 a1 = some (r1, r2, r3)) :
    Calls Try.prog 30 #[.slice A0 l0.length c0, .int .i64 a1] w fun e w' => ∃ v1_ : Value, e = .returned (.tuple #[.int .i64 r1, v1_, .int .i64 r3]) ∧ Kd.R (Kd.int .u8) 5 w' w.heap.size (fun _ => True) v1_ r2 ∧ Below w.heap.size w w' := by
  unfold pack_Take.f at h
  by_cases hl : l0.length < 140737488355328
  · rw [if_pos hl] at h
    have h := Option.some.inj h
    have HL := Aside0.mk hl
    have HR0 := Aside0.mk hr0
    have HC0 := Aside0.mk hc0
    have HL8 := Aside0.mk (show (l0.length : Int) * 8 ≤ 9223372036854775807 by omega)
    clear hr0 hc0 hl
    have hmf : ∀ (fn : Fn) (first cap : Array Value) (W : World), (Instr.makeFunc fn first cap).run Try.prog W = .ok (.func fn first cap) W := fun _ _ _ _ => rfl
    by_cases hm : okSize a1 = true ∧ a1 ≤ (l0.length : Int)
    · have hz : (r1, r2, r3) = (tkl 0 (l0.take a1.toNat), l0.drop a1.toNat, 0) := by rw [← h]; simp [pkTake, hm]
      simp only [Prod.mk.injEq] at hz
      obtain ⟨rfl, rfl, rfl⟩ := hz
      have HK := Aside0.mk hm.1
      have HM := Aside0.mk hm.2
      clear hm h
      obtain ⟨z, hz⟩ : ∃ z : List Int, z = l0.drop a1.toNat := ⟨_, rfl⟩
      have HZ := Aside0.mk hz
      have HZL := Aside0.mk (show z.length ≤ l0.length by rw [hz, List.length_drop]; omega)
      have hcf : slices_Clone_byte_byte.f z = some z := by unfold slices_Clone_byte_byte.f; rw [if_pos (by have := HL.out; have := HZL.out; omega)]
      have HCF := Aside0.mk hcf
      rw [← hz]
      clear hz hcf
      go_enter_defers Try.func30, Try.ntmps30
      go_wp2_with (first | (go_at_call 45; (with_reducible refine (pack_take.ok A0 c0 l0 a1 HL8.out HK.out HM.out _ ?s1 HC0.out).mono ?_); (case s1 => repeat (first | exact HR0.out | (with_reducible refine Kd.C_alloc ?_ _))); rintro e w1 ⟨A1, c1, rfl, hc1, hr1, ⟨nd, rfl⟩⟩; rw [← HZ.out] at hr1 hc1; rw [← HZ.out]; have HC1 := Aside0.mk hc1; have HR1 := Aside0.mk hr1; clear hc1 hr1))
      generalize hW5 : World.setCell _ _ _ = W5
      have hb5 : Below w.heap.size w W5 := by
        rw [← hW5]
        exact ((pw_below_drewN (below_alloc (below_alloc (below_alloc (Below.refl _ _) _) _) _) _).setCell (p := ⟨w.heap.size, 0, none⟩) (Nat.le_refl _) _).setCell (p := ⟨w.heap.size + 1, 0, none⟩) (by simp) _
      have z5 : w.heap.size + 3 ≤ W5.heap.size := by rw [← hW5]; simp
      have c4 : W5.cell? ⟨w.heap.size, 0, none⟩ = some (.int .i64 (tkl 0 (l0.take a1.toNat))) := by
        rw [← hW5, World.cell?_setCell_other _ _ _ _ (by simp)]
        exact World.cell?_setCell_same _ _ _ (t3_a _ _ _ _ _ _ _ _)
      have c5 : W5.cell? ⟨w.heap.size + 1, 0, none⟩ = some (.slice A1 z.length c1) := by
        rw [← hW5]
        exact World.cell?_setCell_same _ _ _ (by rw [World.cell?_setCell_other _ _ _ _ (by simp)]; exact t3_b _ _ _ _ _ _ _ _)
      have c6 : W5.cell? ⟨w.heap.size + 1 + 1, 0, none⟩ = some (.int .i64 0) := by
        rw [← hW5, World.cell?_setCell_other _ _ _ _ (by simp), World.cell?_setCell_other _ _ _ _ (by simp)]; exact t3_c _ _ _ _ _ _ _ _
      have f4 : W5.frozen? ⟨w.heap.size, 0, none⟩ = false := by rw [← hW5, World.frozen?_setCell, World.frozen?_setCell]; exact s3_a _ _ _ _ _ _ _ _
      have f5 : W5.frozen? ⟨w.heap.size + 1, 0, none⟩ = false := by rw [← hW5, World.frozen?_setCell, World.frozen?_setCell]; exact s3_b _ _ _ _ _ _ _ _
      have f6 : W5.frozen? ⟨w.heap.size + 1 + 1, 0, none⟩ = false := by rw [← hW5, World.frozen?_setCell, World.frozen?_setCell]; exact s3_c _ _ _ _ _ _ _ _
      have HR5 := Aside0.mk (HR1.out W5 (Kd.C_below HR0.out hb5))
      have HB5 := Aside0.mk hb5
      have HZ5 := Aside0.mk z5
      clear hW5 hb5 z5
      go_region_with (first | (go_at_call 35; (with_reducible refine (slices_Clone_byte_byte.calls A1 c1 z z _ ?s1 HC1.out HCF.out).mono ?_); (case s1 => repeat (first | exact HR5.out | (with_reducible refine Kd.C_drewN ?_ _) | (with_reducible refine Kd.C_drew ?_))); rintro e w3 ⟨v3, rfl, hR3, hb3⟩; obtain ⟨Ao3, co3, eo3⟩ := Kd.R_slice hR3; subst eo3; have z3 := HZ5.out; have d4 := (hb3.cell (p := ⟨w.heap.size, 0, none⟩) (show w.heap.size < _ by simp; omega)).trans (show _ = _ from c4); have g4 := (hb3.frozen (p := ⟨w.heap.size, 0, none⟩) (show w.heap.size < _ by simp; omega)).trans (show _ = _ from f4); have d5 := (hb3.cell (p := ⟨w.heap.size + 1, 0, none⟩) (show w.heap.size + 1 < _ by simp; omega)).trans (show _ = _ from c5); have g5 := (hb3.frozen (p := ⟨w.heap.size + 1, 0, none⟩) (show w.heap.size + 1 < _ by simp; omega)).trans (show _ = _ from f5); have d6 := (hb3.cell (p := ⟨w.heap.size + 1 + 1, 0, none⟩) (show w.heap.size + 1 + 1 < _ by simp; omega)).trans (show _ = _ from c6); have g6 := (hb3.frozen (p := ⟨w.heap.size + 1 + 1, 0, none⟩) (show w.heap.size + 1 + 1 < _ by simp; omega)).trans (show _ = _ from f6); have HR3 := Aside0.mk hR3; have HB3 := Aside0.mk hb3; clear hR3 hb3 z3))
      all_goals
        go_wp2
        simp only [bodyPostD]
        refine leaves_cons (f := 37) (args := #[.pointer (some ⟨w.heap.size + 1 + 1, 0, none⟩), .func (Fn.func 46) #[] #[.pointer (some ⟨w.heap.size, 0, none⟩), .pointer (some ⟨w.heap.size + 1, 0, none⟩)]]) (by simp) (by simp [go_sem]) ?_
        refine (pack_told.idle _ _ _).mono ?_
        rintro e u' w' ⟨rfl, rfl, rfl⟩
        have hs : settle .returning = .returning := rfl
        simp only [hs]
        refine ⟨.tuple #[.int .i64 (tkl 0 (l0.take a1.toNat)), .slice Ao3 z.length co3, .int .i64 0], ?_, _, rfl, ?_, ?_⟩
        · refine res_three _ _ _ _ _ _ _ _ rfl rfl rfl ?_ ?_ ?_
          · rw [World.cell?_setCell_other _ _ _ _ (by simp), World.cell?_setCell_other _ _ _ _ (by simp)]
            exact World.cell?_setCell_same _ _ _ d4
          · rw [World.cell?_setCell_other _ _ _ _ (by simp)]
            exact World.cell?_setCell_same _ _ _ (by rw [World.cell?_setCell_other _ _ _ _ (by simp)]; exact d5)
          · exact World.cell?_setCell_same _ _ _ (by rw [World.cell?_setCell_other _ _ _ _ (by simp), World.cell?_setCell_other _ _ _ _ (by simp)]; exact d6)
        · have r1 := Kd.R_bound HR3.out
          have hz5 := HZ5.out
          exact Kd.R_mono (Kd.R_lower (Kd.R_far (Kd.R_far (Kd.R_far r1 (fun k hk => by have := hk.2.1; simp at this; simp; omega) _) (fun k hk => by have := hk.2.1; simp at this; simp; omega) _) (fun k hk => by have := hk.2.1; simp at this; simp; omega) _) (by simp; omega)) (fun _ _ => trivial)
        · have hz5 := HZ5.out
          have hb : Below w.heap.size w w3 := HB5.out.trans ((Below.drew (Below.refl _ _)).trans (HB3.out.mono (by simp; omega)))
          exact ((hb.setCell (p := ⟨w.heap.size, 0, none⟩) (Nat.le_refl _) _).setCell (p := ⟨w.heap.size + 1, 0, none⟩) (by simp) _).setCell (p := ⟨w.heap.size + 1 + 1, 0, none⟩) (by simp; omega) _
    · have hm' : okSize a1 = false ∨ (l0.length : Int) < a1 := by
        by_cases hk : okSize a1 = true
        · right; by_cases h2 : a1 ≤ (l0.length : Int)
          · exact absurd ⟨hk, h2⟩ hm
          · omega
        · left; simpa using hk
      have hz : (r1, r2, r3) = (0, [], 40) := by rw [← h]; unfold pkTake; rw [if_neg hm]
      simp only [Prod.mk.injEq] at hz
      obtain ⟨rfl, rfl, rfl⟩ := hz
      have HM := Aside0.mk hm'
      clear hm hm' h
      go_enter_defers Try.func30, Try.ntmps30
      go_wp2_with (first | (go_at_call 45; (with_reducible refine (pack_take.no A0 c0 l0 a1 HL8.out HM.out _).mono ?_); rintro e w1 ⟨rfl, rfl⟩))
      simp only [bodyPostD]
      exact take_tail_no w _ _ _ _ (t3_a _ _ _ _ _ _ _ 0) (s3_a _ _ _ _ _ _ _ 0) (t3_b _ _ _ _ _ _ _ 0) (s3_b _ _ _ _ _ _ _ 0) (t3_c _ _ _ _ _ _ _ 0) (s3_c _ _ _ _ _ _ _ 0) (by simp) (below_alloc (below_alloc (below_alloc (Below.refl _ _) _) _) _) rfl rfl rfl
  · rw [if_neg hl] at h; cases h


end Go.Proofs.Ytfoffgbhfokccaa.A
