/- Lean functions that answer as the Go functions do, and the proofs that they do; no conditions. Written by this session's own driver: a scratch copy of the kit's print with the session's additions (wip/xprint). -/
import Derived.Test.YtkebkghhncelpaaAx0
import Derived.Test.YtkebkghhncelpaaAx4
import Derived.Test.YtkebkghhncelpaaAx6
namespace Go.Proofs.Ytkebkghhncelpaa.A
open Go.RowKit Go.Proofs.YtkebkghhncelpaaW.PrintWords Go.Proofs.YtkebkghhncelpaaW.PrintLast Go.Proofs.YtkebkghhncelpaaW.PrintMore
attribute [local go_sem] max2_int min2_int max_two min_two max_three min_three max_four min_four   -- for this text's walks alone
set_option linter.unusedVariables false
set_option linter.unusedSimpArgs false

/-! ### fullerlaw01_FixSquares: function 6 -/
def fullerlaw01_FixSquares.f (k : Nat) (a0 : Int) (a1 : Int) : Option (Bool) := (fullerlaw01_awake.f k).bind fun t159 => (if a1 > 30000 then (some t159) else ((fix_Mul.f (wrap64 ((wrap64 (a0)) + (wrap64 ((wrap64 (a1)) * 4294967296)))) (wrap64 ((wrap64 (a0)) + (wrap64 ((wrap64 (a1)) * 4294967296))))).bind fun bt160 => ((fix_Sqrt.f k bt160.1).bind fun bt162 => (if t159 = true then (if bt160.2 = 0 then (if bt162.2 = 0 then (if bt162.1 ≤ (wrap64 ((wrap64 (a0)) + (wrap64 ((wrap64 (a1)) * 4294967296)))) then (if bt162.1 ≥ 0 then (if (wrap64 ((wrap64 (a0)) + (wrap64 ((wrap64 (a1)) * 4294967296)))) < 4294967296 then (some true) else (some (decide (bt162.1 ≥ (wrap64 ((wrap64 ((wrap64 (a0)) + (wrap64 ((wrap64 (a1)) * 4294967296)))) - 1)))))) else (some false)) else (some false)) else (some false)) else (some false)) else (some false)))))
theorem fullerlaw01_FixSquares.mono : ∀ a0 a1 k, LeO (fullerlaw01_FixSquares.f k a0 a1) (fullerlaw01_FixSquares.f (k + 1) a0 a1) := by
  intro a0 a1 k
  unfold fullerlaw01_FixSquares.f
  repeat' first
      | (with_reducible exact fix_Sqrt.mono _ _)
      | (with_reducible exact fullerlaw01_awake.mono _)
      | (with_reducible exact LeO.refl _)
      | (with_reducible exact LeO.none _)
      | (with_reducible refine LeO.ite ?_ ?_)
      | (with_reducible refine LeO.bind ?_ (fun _ => ?_))
      | exact fix_Sqrt.mono _ _
      | exact fullerlaw01_awake.mono _
      | exact LeO.none _
      | refine LeO.ite ?_ ?_
      | refine LeO.bind ?_ (fun _ => ?_)
set_option maxHeartbeats 8000000 in
set_option maxRecDepth 100000 in
theorem fullerlaw01_FixSquares.calls (k : Nat) (a0 : Int) (a1 : Int) (r : Bool) (w : World) (h : fullerlaw01_FixSquares.f k a0 a1 = some r) :
    Calls Try.prog 6 #[.int .u32 a0, .int .u16 a1] w fun e w' => e = .returned (.bool r) ∧ Below w.heap.size w w' := by
  have HB := Aside0.mk (Below.refl w.heap.size w)
  have H : ((fullerlaw01_awake.f k).bind fun t159 => (if a1 > 30000 then (some t159) else ((fix_Mul.f (wrap64 ((wrap64 (a0)) + (wrap64 ((wrap64 (a1)) * 4294967296)))) (wrap64 ((wrap64 (a0)) + (wrap64 ((wrap64 (a1)) * 4294967296))))).bind fun bt160 => ((fix_Sqrt.f k bt160.1).bind fun bt162 => (if t159 = true then (if bt160.2 = 0 then (if bt162.2 = 0 then (if bt162.1 ≤ (wrap64 ((wrap64 (a0)) + (wrap64 ((wrap64 (a1)) * 4294967296)))) then (if bt162.1 ≥ 0 then (if (wrap64 ((wrap64 (a0)) + (wrap64 ((wrap64 (a1)) * 4294967296)))) < 4294967296 then (some true) else (some (decide (bt162.1 ≥ (wrap64 ((wrap64 ((wrap64 (a0)) + (wrap64 ((wrap64 (a1)) * 4294967296)))) - 1)))))) else (some false)) else (some false)) else (some false)) else (some false)) else (some false)))))) = some r := h
  clear h
  replace H := Option.bind_eq_some_iff.mp H
  obtain ⟨t159, A30, H⟩ := H
  replace H : (if a1 > 30000 then (some t159) else ((fix_Mul.f (wrap64 ((wrap64 (a0)) + (wrap64 ((wrap64 (a1)) * 4294967296)))) (wrap64 ((wrap64 (a0)) + (wrap64 ((wrap64 (a1)) * 4294967296))))).bind fun bt160 => ((fix_Sqrt.f k bt160.1).bind fun bt162 => (if t159 = true then (if bt160.2 = 0 then (if bt162.2 = 0 then (if bt162.1 ≤ (wrap64 ((wrap64 (a0)) + (wrap64 ((wrap64 (a1)) * 4294967296)))) then (if bt162.1 ≥ 0 then (if (wrap64 ((wrap64 (a0)) + (wrap64 ((wrap64 (a1)) * 4294967296)))) < 4294967296 then (some true) else (some (decide (bt162.1 ≥ (wrap64 ((wrap64 ((wrap64 (a0)) + (wrap64 ((wrap64 (a1)) * 4294967296)))) - 1)))))) else (some false)) else (some false)) else (some false)) else (some false)) else (some false))))) = some r := H
  have A3 := Aside0.mk A30
  clear A30
  by_cases c4 : a1 > 30000
  · rw [if_pos c4] at H
    have c4b0 : decide (30000 < a1) = true := decide_eq_true c4
    clear c4
    obtain rfl := Option.some.inj H
    go_enter Try.func6, Try.ntmps6
    go_wp2_with (first | ((with_reducible refine gate_callee (f := 10) rfl ?_); refine goesL_ (some 11) rfl rfl Try.func10 (by kernel_rfl) rfl #[] rfl (by (try simp only [List.map_toArray, List.map_cons, List.map_nil]); first | done | rfl | (simp only [List.length_drop, List.length_take]; rfl)) ?_; (with_reducible refine (fullerlaw01_awake.calls k  t159 _ A3.out).mono ?_); rintro e w5 ⟨rfl, hb⟩; refine ⟨_, rfl, ?_⟩; have n0_ := Aside0.mk (below_step (bq0_ HB.out) hb); clear HB; have HB := n0_; clear n0_; (try clear hb)))
    go_ret
    exact ⟨by first | rfl | (simp [errW_none, errW_some] <;> rfl) | (simp [*, errW_none, errW_some] <;> rfl), by repeat (first | (with_reducible first | exact HB.out | apply below_alloc | apply pw_below_drewN | apply below_drew1) | exact HB.out)⟩
  · rw [if_neg c4] at H
    have c4b0 : decide (30000 < a1) = false := decide_eq_false c4
    clear c4
    replace H := Option.bind_eq_some_iff.mp H
    obtain ⟨⟨t160, t161⟩, A60, H⟩ := H
    replace H : ((fix_Sqrt.f k t160).bind fun bt162 => (if t159 = true then (if t161 = 0 then (if bt162.2 = 0 then (if bt162.1 ≤ (wrap64 ((wrap64 (a0)) + (wrap64 ((wrap64 (a1)) * 4294967296)))) then (if bt162.1 ≥ 0 then (if (wrap64 ((wrap64 (a0)) + (wrap64 ((wrap64 (a1)) * 4294967296)))) < 4294967296 then (some true) else (some (decide (bt162.1 ≥ (wrap64 ((wrap64 ((wrap64 (a0)) + (wrap64 ((wrap64 (a1)) * 4294967296)))) - 1)))))) else (some false)) else (some false)) else (some false)) else (some false)) else (some false))) = some r := H
    have A6 := Aside0.mk A60
    clear A60
    replace H := Option.bind_eq_some_iff.mp H
    obtain ⟨⟨t162, t163⟩, A70, H⟩ := H
    replace H : (if t159 = true then (if t161 = 0 then (if t163 = 0 then (if t162 ≤ (wrap64 ((wrap64 (a0)) + (wrap64 ((wrap64 (a1)) * 4294967296)))) then (if t162 ≥ 0 then (if (wrap64 ((wrap64 (a0)) + (wrap64 ((wrap64 (a1)) * 4294967296)))) < 4294967296 then (some true) else (some (decide (t162 ≥ (wrap64 ((wrap64 ((wrap64 (a0)) + (wrap64 ((wrap64 (a1)) * 4294967296)))) - 1)))))) else (some false)) else (some false)) else (some false)) else (some false)) else (some false)) = some r := H
    have A7 := Aside0.mk A70
    clear A70
    by_cases c8 : t159 = true
    · subst c8
      have H1 : (if t161 = 0 then (if t163 = 0 then (if t162 ≤ (wrap64 ((wrap64 (a0)) + (wrap64 ((wrap64 (a1)) * 4294967296)))) then (if t162 ≥ 0 then (if (wrap64 ((wrap64 (a0)) + (wrap64 ((wrap64 (a1)) * 4294967296)))) < 4294967296 then (some true) else (some (decide (t162 ≥ (wrap64 ((wrap64 ((wrap64 (a0)) + (wrap64 ((wrap64 (a1)) * 4294967296)))) - 1)))))) else (some false)) else (some false)) else (some false)) else (some false)) = some r := by rw [if_pos rfl] at H; exact H
      clear H
      have H := H1
      clear H1
      by_cases c9 : t161 = 0
      · rw [if_pos c9] at H
        have c9b0 : (t161 == 0) = true := beq_iff_eq.mpr c9
        have c9b1 : (t161 != 0) = false := bne_eq_false_iff_eq.mpr c9
        clear c9
        by_cases c10 : t163 = 0
        · rw [if_pos c10] at H
          have c10b0 : (t163 == 0) = true := beq_iff_eq.mpr c10
          have c10b1 : (t163 != 0) = false := bne_eq_false_iff_eq.mpr c10
          clear c10
          by_cases c11 : t162 ≤ (wrap64 ((wrap64 (a0)) + (wrap64 ((wrap64 (a1)) * 4294967296))))
          · rw [if_pos c11] at H
            have c11b0 : decide (t162 ≤ (wrap64 ((wrap64 (a0)) + (wrap64 ((wrap64 (a1)) * 4294967296))))) = true := decide_eq_true c11
            clear c11
            by_cases c12 : t162 ≥ 0
            · rw [if_pos c12] at H
              have c12b0 : decide (0 ≤ t162) = true := decide_eq_true c12
              clear c12
              by_cases c13 : (wrap64 ((wrap64 (a0)) + (wrap64 ((wrap64 (a1)) * 4294967296)))) < 4294967296
              · rw [if_pos c13] at H
                have c13b0 : decide ((wrap64 ((wrap64 (a0)) + (wrap64 ((wrap64 (a1)) * 4294967296)))) < 4294967296) = true := decide_eq_true c13
                clear c13
                obtain rfl := Option.some.inj H
                go_enter Try.func6, Try.ntmps6
                go_wp2_with (first | ((with_reducible refine gate_callee (f := 10) rfl ?_); refine goesL_ (some 11) rfl rfl Try.func10 (by kernel_rfl) rfl #[] rfl (by (try simp only [List.map_toArray, List.map_cons, List.map_nil]); first | done | rfl | (simp only [List.length_drop, List.length_take]; rfl)) ?_; (with_reducible refine (fullerlaw01_awake.calls k  true _ A3.out).mono ?_); rintro e w14 ⟨rfl, hb⟩; refine ⟨_, rfl, ?_⟩; have n0_ := Aside0.mk (below_step (bq0_ HB.out) hb); clear HB; have HB := n0_; clear n0_; (try clear hb)) | ((with_reducible refine gate_callee (f := 12) rfl ?_); refine goesL_ (some 24) rfl rfl Try.func12 (by kernel_rfl) rfl #[.int .i64 (wrap64 ((wrap64 (a0)) + (wrap64 ((wrap64 (a1)) * 4294967296)))), .int .i64 (wrap64 ((wrap64 (a0)) + (wrap64 ((wrap64 (a1)) * 4294967296))))] rfl (by (try simp only [List.map_toArray, List.map_cons, List.map_nil]); first | done | rfl | (simp only [List.length_drop, List.length_take]; rfl)) ?_; (with_reducible refine (fix_Mul.calls (wrap64 ((wrap64 (a0)) + (wrap64 ((wrap64 (a1)) * 4294967296)))) (wrap64 ((wrap64 (a0)) + (wrap64 ((wrap64 (a1)) * 4294967296)))) t160 t161 _ A6.out).mono ?_); rintro e w15 ⟨rfl, hb⟩; refine ⟨_, rfl, ?_⟩; have n0_ := Aside0.mk (below_step (bq0_ HB.out) hb); clear HB; have HB := n0_; clear n0_; (try clear hb)) | ((with_reducible refine gate_callee (f := 13) rfl ?_); refine goesL_ (some 29) rfl rfl Try.func13 (by kernel_rfl) rfl #[.int .i64 t160] rfl (by (try simp only [List.map_toArray, List.map_cons, List.map_nil]); first | done | rfl | (simp only [List.length_drop, List.length_take]; rfl)) ?_; (with_reducible refine (fix_Sqrt.calls k t160 t162 t163 _ A7.out).mono ?_); rintro e w' ⟨rfl, ⟨nd, rfl⟩⟩; refine ⟨_, rfl, ?_⟩))
                go_ret
                exact ⟨by first | rfl | (simp [errW_none, errW_some] <;> rfl) | (simp [*, errW_none, errW_some] <;> rfl), by repeat (first | (with_reducible first | exact HB.out | apply below_alloc | apply pw_below_drewN | apply below_drew1) | exact HB.out)⟩
              · rw [if_neg c13] at H
                have c13b0 : decide ((wrap64 ((wrap64 (a0)) + (wrap64 ((wrap64 (a1)) * 4294967296)))) < 4294967296) = false := decide_eq_false c13
                clear c13
                obtain rfl := Option.some.inj H
                go_enter Try.func6, Try.ntmps6
                go_wp2_with (first | ((with_reducible refine gate_callee (f := 10) rfl ?_); refine goesL_ (some 11) rfl rfl Try.func10 (by kernel_rfl) rfl #[] rfl (by (try simp only [List.map_toArray, List.map_cons, List.map_nil]); first | done | rfl | (simp only [List.length_drop, List.length_take]; rfl)) ?_; (with_reducible refine (fullerlaw01_awake.calls k  true _ A3.out).mono ?_); rintro e w16 ⟨rfl, hb⟩; refine ⟨_, rfl, ?_⟩; have n0_ := Aside0.mk (below_step (bq0_ HB.out) hb); clear HB; have HB := n0_; clear n0_; (try clear hb)) | ((with_reducible refine gate_callee (f := 12) rfl ?_); refine goesL_ (some 24) rfl rfl Try.func12 (by kernel_rfl) rfl #[.int .i64 (wrap64 ((wrap64 (a0)) + (wrap64 ((wrap64 (a1)) * 4294967296)))), .int .i64 (wrap64 ((wrap64 (a0)) + (wrap64 ((wrap64 (a1)) * 4294967296))))] rfl (by (try simp only [List.map_toArray, List.map_cons, List.map_nil]); first | done | rfl | (simp only [List.length_drop, List.length_take]; rfl)) ?_; (with_reducible refine (fix_Mul.calls (wrap64 ((wrap64 (a0)) + (wrap64 ((wrap64 (a1)) * 4294967296)))) (wrap64 ((wrap64 (a0)) + (wrap64 ((wrap64 (a1)) * 4294967296)))) t160 t161 _ A6.out).mono ?_); rintro e w17 ⟨rfl, hb⟩; refine ⟨_, rfl, ?_⟩; have n0_ := Aside0.mk (below_step (bq0_ HB.out) hb); clear HB; have HB := n0_; clear n0_; (try clear hb)) | ((with_reducible refine gate_callee (f := 13) rfl ?_); refine goesL_ (some 29) rfl rfl Try.func13 (by kernel_rfl) rfl #[.int .i64 t160] rfl (by (try simp only [List.map_toArray, List.map_cons, List.map_nil]); first | done | rfl | (simp only [List.length_drop, List.length_take]; rfl)) ?_; (with_reducible refine (fix_Sqrt.calls k t160 t162 t163 _ A7.out).mono ?_); rintro e w' ⟨rfl, ⟨nd, rfl⟩⟩; refine ⟨_, rfl, ?_⟩))
                go_ret
                exact ⟨by first | rfl | (simp [errW_none, errW_some] <;> rfl) | (simp [*, errW_none, errW_some] <;> rfl), by repeat (first | (with_reducible first | exact HB.out | apply below_alloc | apply pw_below_drewN | apply below_drew1) | exact HB.out)⟩
            · rw [if_neg c12] at H
              have c12b0 : decide (0 ≤ t162) = false := decide_eq_false c12
              clear c12
              obtain rfl := Option.some.inj H
              go_enter Try.func6, Try.ntmps6
              go_wp2_with (first | ((with_reducible refine gate_callee (f := 10) rfl ?_); refine goesL_ (some 11) rfl rfl Try.func10 (by kernel_rfl) rfl #[] rfl (by (try simp only [List.map_toArray, List.map_cons, List.map_nil]); first | done | rfl | (simp only [List.length_drop, List.length_take]; rfl)) ?_; (with_reducible refine (fullerlaw01_awake.calls k  true _ A3.out).mono ?_); rintro e w18 ⟨rfl, hb⟩; refine ⟨_, rfl, ?_⟩; have n0_ := Aside0.mk (below_step (bq0_ HB.out) hb); clear HB; have HB := n0_; clear n0_; (try clear hb)) | ((with_reducible refine gate_callee (f := 12) rfl ?_); refine goesL_ (some 24) rfl rfl Try.func12 (by kernel_rfl) rfl #[.int .i64 (wrap64 ((wrap64 (a0)) + (wrap64 ((wrap64 (a1)) * 4294967296)))), .int .i64 (wrap64 ((wrap64 (a0)) + (wrap64 ((wrap64 (a1)) * 4294967296))))] rfl (by (try simp only [List.map_toArray, List.map_cons, List.map_nil]); first | done | rfl | (simp only [List.length_drop, List.length_take]; rfl)) ?_; (with_reducible refine (fix_Mul.calls (wrap64 ((wrap64 (a0)) + (wrap64 ((wrap64 (a1)) * 4294967296)))) (wrap64 ((wrap64 (a0)) + (wrap64 ((wrap64 (a1)) * 4294967296)))) t160 t161 _ A6.out).mono ?_); rintro e w19 ⟨rfl, hb⟩; refine ⟨_, rfl, ?_⟩; have n0_ := Aside0.mk (below_step (bq0_ HB.out) hb); clear HB; have HB := n0_; clear n0_; (try clear hb)) | ((with_reducible refine gate_callee (f := 13) rfl ?_); refine goesL_ (some 29) rfl rfl Try.func13 (by kernel_rfl) rfl #[.int .i64 t160] rfl (by (try simp only [List.map_toArray, List.map_cons, List.map_nil]); first | done | rfl | (simp only [List.length_drop, List.length_take]; rfl)) ?_; (with_reducible refine (fix_Sqrt.calls k t160 t162 t163 _ A7.out).mono ?_); rintro e w' ⟨rfl, ⟨nd, rfl⟩⟩; refine ⟨_, rfl, ?_⟩))
              go_ret
              exact ⟨by first | rfl | (simp [errW_none, errW_some] <;> rfl) | (simp [*, errW_none, errW_some] <;> rfl), by repeat (first | (with_reducible first | exact HB.out | apply below_alloc | apply pw_below_drewN | apply below_drew1) | exact HB.out)⟩
          · rw [if_neg c11] at H
            have c11b0 : decide (t162 ≤ (wrap64 ((wrap64 (a0)) + (wrap64 ((wrap64 (a1)) * 4294967296))))) = false := decide_eq_false c11
            clear c11
            obtain rfl := Option.some.inj H
            go_enter Try.func6, Try.ntmps6
            go_wp2_with (first | ((with_reducible refine gate_callee (f := 10) rfl ?_); refine goesL_ (some 11) rfl rfl Try.func10 (by kernel_rfl) rfl #[] rfl (by (try simp only [List.map_toArray, List.map_cons, List.map_nil]); first | done | rfl | (simp only [List.length_drop, List.length_take]; rfl)) ?_; (with_reducible refine (fullerlaw01_awake.calls k  true _ A3.out).mono ?_); rintro e w20 ⟨rfl, hb⟩; refine ⟨_, rfl, ?_⟩; have n0_ := Aside0.mk (below_step (bq0_ HB.out) hb); clear HB; have HB := n0_; clear n0_; (try clear hb)) | ((with_reducible refine gate_callee (f := 12) rfl ?_); refine goesL_ (some 24) rfl rfl Try.func12 (by kernel_rfl) rfl #[.int .i64 (wrap64 ((wrap64 (a0)) + (wrap64 ((wrap64 (a1)) * 4294967296)))), .int .i64 (wrap64 ((wrap64 (a0)) + (wrap64 ((wrap64 (a1)) * 4294967296))))] rfl (by (try simp only [List.map_toArray, List.map_cons, List.map_nil]); first | done | rfl | (simp only [List.length_drop, List.length_take]; rfl)) ?_; (with_reducible refine (fix_Mul.calls (wrap64 ((wrap64 (a0)) + (wrap64 ((wrap64 (a1)) * 4294967296)))) (wrap64 ((wrap64 (a0)) + (wrap64 ((wrap64 (a1)) * 4294967296)))) t160 t161 _ A6.out).mono ?_); rintro e w21 ⟨rfl, hb⟩; refine ⟨_, rfl, ?_⟩; have n0_ := Aside0.mk (below_step (bq0_ HB.out) hb); clear HB; have HB := n0_; clear n0_; (try clear hb)) | ((with_reducible refine gate_callee (f := 13) rfl ?_); refine goesL_ (some 29) rfl rfl Try.func13 (by kernel_rfl) rfl #[.int .i64 t160] rfl (by (try simp only [List.map_toArray, List.map_cons, List.map_nil]); first | done | rfl | (simp only [List.length_drop, List.length_take]; rfl)) ?_; (with_reducible refine (fix_Sqrt.calls k t160 t162 t163 _ A7.out).mono ?_); rintro e w' ⟨rfl, ⟨nd, rfl⟩⟩; refine ⟨_, rfl, ?_⟩))
            go_ret
            exact ⟨by first | rfl | (simp [errW_none, errW_some] <;> rfl) | (simp [*, errW_none, errW_some] <;> rfl), by repeat (first | (with_reducible first | exact HB.out | apply below_alloc | apply pw_below_drewN | apply below_drew1) | exact HB.out)⟩
        · rw [if_neg c10] at H
          have c10b0 : (t163 == 0) = false := beq_eq_false_iff_ne.mpr c10
          have c10b1 : (t163 != 0) = true := bne_iff_ne.mpr c10
          obtain rfl := Option.some.inj H
          go_enter Try.func6, Try.ntmps6
          go_wp2_with (first | ((with_reducible refine gate_callee (f := 10) rfl ?_); refine goesL_ (some 11) rfl rfl Try.func10 (by kernel_rfl) rfl #[] rfl (by (try simp only [List.map_toArray, List.map_cons, List.map_nil]); first | done | rfl | (simp only [List.length_drop, List.length_take]; rfl)) ?_; (with_reducible refine (fullerlaw01_awake.calls k  true _ A3.out).mono ?_); rintro e w22 ⟨rfl, hb⟩; refine ⟨_, rfl, ?_⟩; have n0_ := Aside0.mk (below_step (bq0_ HB.out) hb); clear HB; have HB := n0_; clear n0_; (try clear hb)) | ((with_reducible refine gate_callee (f := 12) rfl ?_); refine goesL_ (some 24) rfl rfl Try.func12 (by kernel_rfl) rfl #[.int .i64 (wrap64 ((wrap64 (a0)) + (wrap64 ((wrap64 (a1)) * 4294967296)))), .int .i64 (wrap64 ((wrap64 (a0)) + (wrap64 ((wrap64 (a1)) * 4294967296))))] rfl (by (try simp only [List.map_toArray, List.map_cons, List.map_nil]); first | done | rfl | (simp only [List.length_drop, List.length_take]; rfl)) ?_; (with_reducible refine (fix_Mul.calls (wrap64 ((wrap64 (a0)) + (wrap64 ((wrap64 (a1)) * 4294967296)))) (wrap64 ((wrap64 (a0)) + (wrap64 ((wrap64 (a1)) * 4294967296)))) t160 t161 _ A6.out).mono ?_); rintro e w23 ⟨rfl, hb⟩; refine ⟨_, rfl, ?_⟩; have n0_ := Aside0.mk (below_step (bq0_ HB.out) hb); clear HB; have HB := n0_; clear n0_; (try clear hb)) | ((with_reducible refine gate_callee (f := 13) rfl ?_); refine goesL_ (some 29) rfl rfl Try.func13 (by kernel_rfl) rfl #[.int .i64 t160] rfl (by (try simp only [List.map_toArray, List.map_cons, List.map_nil]); first | done | rfl | (simp only [List.length_drop, List.length_take]; rfl)) ?_; (with_reducible refine (fix_Sqrt.calls k t160 t162 t163 _ A7.out).mono ?_); rintro e w' ⟨rfl, ⟨nd, rfl⟩⟩; refine ⟨_, rfl, ?_⟩))
          go_ret
          exact ⟨by first | rfl | (simp [errW_none, errW_some] <;> rfl) | (simp [*, errW_none, errW_some] <;> rfl), by repeat (first | (with_reducible first | exact HB.out | apply below_alloc | apply pw_below_drewN | apply below_drew1) | exact HB.out)⟩
      · rw [if_neg c9] at H
        have c9b0 : (t161 == 0) = false := beq_eq_false_iff_ne.mpr c9
        have c9b1 : (t161 != 0) = true := bne_iff_ne.mpr c9
        obtain rfl := Option.some.inj H
        go_enter Try.func6, Try.ntmps6
        go_wp2_with (first | ((with_reducible refine gate_callee (f := 10) rfl ?_); refine goesL_ (some 11) rfl rfl Try.func10 (by kernel_rfl) rfl #[] rfl (by (try simp only [List.map_toArray, List.map_cons, List.map_nil]); first | done | rfl | (simp only [List.length_drop, List.length_take]; rfl)) ?_; (with_reducible refine (fullerlaw01_awake.calls k  true _ A3.out).mono ?_); rintro e w24 ⟨rfl, hb⟩; refine ⟨_, rfl, ?_⟩; have n0_ := Aside0.mk (below_step (bq0_ HB.out) hb); clear HB; have HB := n0_; clear n0_; (try clear hb)) | ((with_reducible refine gate_callee (f := 12) rfl ?_); refine goesL_ (some 24) rfl rfl Try.func12 (by kernel_rfl) rfl #[.int .i64 (wrap64 ((wrap64 (a0)) + (wrap64 ((wrap64 (a1)) * 4294967296)))), .int .i64 (wrap64 ((wrap64 (a0)) + (wrap64 ((wrap64 (a1)) * 4294967296))))] rfl (by (try simp only [List.map_toArray, List.map_cons, List.map_nil]); first | done | rfl | (simp only [List.length_drop, List.length_take]; rfl)) ?_; (with_reducible refine (fix_Mul.calls (wrap64 ((wrap64 (a0)) + (wrap64 ((wrap64 (a1)) * 4294967296)))) (wrap64 ((wrap64 (a0)) + (wrap64 ((wrap64 (a1)) * 4294967296)))) t160 t161 _ A6.out).mono ?_); rintro e w25 ⟨rfl, hb⟩; refine ⟨_, rfl, ?_⟩; have n0_ := Aside0.mk (below_step (bq0_ HB.out) hb); clear HB; have HB := n0_; clear n0_; (try clear hb)) | ((with_reducible refine gate_callee (f := 13) rfl ?_); refine goesL_ (some 29) rfl rfl Try.func13 (by kernel_rfl) rfl #[.int .i64 t160] rfl (by (try simp only [List.map_toArray, List.map_cons, List.map_nil]); first | done | rfl | (simp only [List.length_drop, List.length_take]; rfl)) ?_; (with_reducible refine (fix_Sqrt.calls k t160 t162 t163 _ A7.out).mono ?_); rintro e w' ⟨rfl, ⟨nd, rfl⟩⟩; refine ⟨_, rfl, ?_⟩))
        go_ret
        exact ⟨by first | rfl | (simp [errW_none, errW_some] <;> rfl) | (simp [*, errW_none, errW_some] <;> rfl), by repeat (first | (with_reducible first | exact HB.out | apply below_alloc | apply pw_below_drewN | apply below_drew1) | exact HB.out)⟩
    · replace c8 := Bool.eq_false_iff.mpr c8
      subst c8
      have H1 : (some false) = some r := by rw [if_neg (show ¬ (false = true) by decide)] at H; exact H
      clear H
      have H := H1
      clear H1
      obtain rfl := Option.some.inj H
      go_enter Try.func6, Try.ntmps6
      go_wp2_with (first | ((with_reducible refine gate_callee (f := 10) rfl ?_); refine goesL_ (some 11) rfl rfl Try.func10 (by kernel_rfl) rfl #[] rfl (by (try simp only [List.map_toArray, List.map_cons, List.map_nil]); first | done | rfl | (simp only [List.length_drop, List.length_take]; rfl)) ?_; (with_reducible refine (fullerlaw01_awake.calls k  false _ A3.out).mono ?_); rintro e w26 ⟨rfl, hb⟩; refine ⟨_, rfl, ?_⟩; have n0_ := Aside0.mk (below_step (bq0_ HB.out) hb); clear HB; have HB := n0_; clear n0_; (try clear hb)) | ((with_reducible refine gate_callee (f := 12) rfl ?_); refine goesL_ (some 24) rfl rfl Try.func12 (by kernel_rfl) rfl #[.int .i64 (wrap64 ((wrap64 (a0)) + (wrap64 ((wrap64 (a1)) * 4294967296)))), .int .i64 (wrap64 ((wrap64 (a0)) + (wrap64 ((wrap64 (a1)) * 4294967296))))] rfl (by (try simp only [List.map_toArray, List.map_cons, List.map_nil]); first | done | rfl | (simp only [List.length_drop, List.length_take]; rfl)) ?_; (with_reducible refine (fix_Mul.calls (wrap64 ((wrap64 (a0)) + (wrap64 ((wrap64 (a1)) * 4294967296)))) (wrap64 ((wrap64 (a0)) + (wrap64 ((wrap64 (a1)) * 4294967296)))) t160 t161 _ A6.out).mono ?_); rintro e w27 ⟨rfl, hb⟩; refine ⟨_, rfl, ?_⟩; have n0_ := Aside0.mk (below_step (bq0_ HB.out) hb); clear HB; have HB := n0_; clear n0_; (try clear hb)) | ((with_reducible refine gate_callee (f := 13) rfl ?_); refine goesL_ (some 29) rfl rfl Try.func13 (by kernel_rfl) rfl #[.int .i64 t160] rfl (by (try simp only [List.map_toArray, List.map_cons, List.map_nil]); first | done | rfl | (simp only [List.length_drop, List.length_take]; rfl)) ?_; (with_reducible refine (fix_Sqrt.calls k t160 t162 t163 _ A7.out).mono ?_); rintro e w' ⟨rfl, ⟨nd, rfl⟩⟩; refine ⟨_, rfl, ?_⟩))
      go_ret
      exact ⟨by first | rfl | (simp [errW_none, errW_some] <;> rfl) | (simp [*, errW_none, errW_some] <;> rfl), by repeat (first | (with_reducible first | exact HB.out | apply below_alloc | apply pw_below_drewN | apply below_drew1) | exact HB.out)⟩

/-- THE ONE PURE STATEMENT of fullerlaw01_FixSquares: yours. -/
def fullerlaw01_FixSquares.Pure : Prop := ∀ (a0 : Int) (a1 : Int), (Lit.int .u32 a0).wf = true → (Lit.int .u16 a1).wf = true → ∃ k, fullerlaw01_FixSquares.f k a0 a1 = some true
theorem fullerlaw01_FixSquares.walk (P : fullerlaw01_FixSquares.Pure) (a0 : Int) (a1 : Int) (w : World) (w0 : (Lit.int .u32 a0).wf = true) (w1 : (Lit.int .u16 a1).wf = true) :
    Calls Try.prog 6 #[.int .u32 a0, .int .u16 a1] w fun e w' => e = .returned (.bool true) ∧ Below w.heap.size w w' := by
  obtain ⟨k, h⟩ := P a0 a1 w0 w1
  refine (fullerlaw01_FixSquares.calls k a0 a1 true w h).mono ?_
  rintro e w' ⟨rfl, hd⟩
  exact ⟨rfl, hd⟩

/-! ### fix_Neg: function 16 -/
def fix_Neg.f (a0 : Int) : Option (Int × Int) := (fix_told.f (wrap64 (-a0)) (a0 != (-9223372036854775808))).bind fun bt164 => (some (bt164.1, bt164.2))
set_option maxHeartbeats 8000000 in
set_option maxRecDepth 100000 in
theorem fix_Neg.calls (a0 : Int) (r1 : Int) (r2 : Int) (w : World) (h : fix_Neg.f a0 = some (r1, r2)) :
    Calls Try.prog 16 #[.int .i64 a0] w fun e w' => e = .returned (.tuple #[.int .i64 r1, .int .i64 r2]) ∧ Drawn0 w w' := by
  have H : ((fix_told.f (wrap64 (-a0)) (a0 != (-9223372036854775808))).bind fun bt164 => (some (bt164.1, bt164.2))) = some (r1, r2) := h
  clear h
  replace H := Option.bind_eq_some_iff.mp H
  obtain ⟨⟨t164, t165⟩, A20, H⟩ := H
  replace H : (some (t164, t165)) = some (r1, r2) := H
  have A2 := Aside0.mk A20
  clear A20
  simp only [Option.some.injEq, Prod.mk.injEq] at H
  obtain ⟨rfl, rfl⟩ := H
  go_enter Try.func16, Try.ntmps16
  go_wp2_with (first | ((with_reducible refine gate_callee (f := 33) rfl ?_); refine goesL_ (some 8) rfl rfl Try.func33 (by kernel_rfl) rfl #[.int .i64 (wrap64 (-a0)), .bool (a0 != (-9223372036854775808))] rfl (by (try simp only [List.map_toArray, List.map_cons, List.map_nil]); first | done | rfl | (simp only [List.length_drop, List.length_take]; rfl)) ?_; (with_reducible refine (fix_told.calls (wrap64 (-a0)) (a0 != (-9223372036854775808)) t164 t165 _ A2.out).mono ?_); rintro e w' ⟨rfl, ⟨nd, rfl⟩⟩; refine ⟨_, rfl, ?_⟩))
  go_ret2
  exact ⟨by first | rfl | (simp; done) | (simp [*]; done), by repeat (first | exact Drawn0.refl _ | apply Drawn0.step)⟩

end Go.Proofs.Ytkebkghhncelpaa.A
