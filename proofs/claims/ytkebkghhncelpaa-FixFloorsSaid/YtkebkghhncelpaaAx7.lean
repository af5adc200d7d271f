/- Lean functions that answer as the Go functions do, and the proofs that they do; no conditions. Written by this session's own driver: a scratch copy of the kit's print with the session's additions (wip/xprint). -/
import Derived.Test.YtkebkghhncelpaaAx0
import Derived.Test.YtkebkghhncelpaaAx3
import Derived.Test.YtkebkghhncelpaaAx4
import Derived.Test.YtkebkghhncelpaaAx6
namespace Go.Proofs.Ytkebkghhncelpaa.A
open Go.RowKit Go.Proofs.YtkebkghhncelpaaW.PrintWords Go.Proofs.YtkebkghhncelpaaW.PrintLast Go.Proofs.YtkebkghhncelpaaW.PrintMore
attribute [local go_sem] max2_int min2_int max_two min_two max_three min_three max_four min_four   -- for this text's walks alone
set_option linter.unusedVariables false
set_option linter.unusedSimpArgs false

/-! ### fullerlaw01_FixFloors: function 3 -/
def fullerlaw01_FixFloors.f (k : Nat) (a0 : Int) (a1 : Int) (a2 : Int) : Option (Bool) := (fullerlaw01_awake.f k).bind fun t132 => ((fix_Div.f k (wrap64 (a0)) (wrap64 ((wrap64 (a1)) + 1))).bind fun bt133 => ((fix_Mul.f (wrap64 (a1)) (wrap64 (Int.tmod a2 65536))).bind fun bt135 => (if t132 = true then (if bt133.2 = 0 then (if bt135.2 = 0 then (if (wrap64 (bt133.1 * (wrap64 ((wrap64 (a1)) + 1)))) ≤ (wrap64 ((wrap64 (a0)) * 4294967296)) then (if (wrap64 ((wrap64 (bt133.1 + 1)) * (wrap64 ((wrap64 (a1)) + 1)))) > (wrap64 ((wrap64 (a0)) * 4294967296)) then (if (wrap64 (bt135.1 * 4294967296)) ≤ (wrap64 ((wrap64 (a1)) * (wrap64 (Int.tmod a2 65536)))) then (some (decide ((wrap64 ((wrap64 (bt135.1 + 1)) * 4294967296)) > (wrap64 ((wrap64 (a1)) * (wrap64 (Int.tmod a2 65536))))))) else (some false)) else (some false)) else (some false)) else (some false)) else (some false)) else (some false))))
theorem fullerlaw01_FixFloors.mono : ∀ a0 a1 a2 k, LeO (fullerlaw01_FixFloors.f k a0 a1 a2) (fullerlaw01_FixFloors.f (k + 1) a0 a1 a2) := by
  intro a0 a1 a2 k
  unfold fullerlaw01_FixFloors.f
  repeat' first
      | (with_reducible exact fix_Div.mono _ _ _)
      | (with_reducible exact fullerlaw01_awake.mono _)
      | (with_reducible exact LeO.refl _)
      | (with_reducible exact LeO.none _)
      | (with_reducible refine LeO.ite ?_ ?_)
      | (with_reducible refine LeO.bind ?_ (fun _ => ?_))
      | exact fix_Div.mono _ _ _
      | exact fullerlaw01_awake.mono _
      | exact LeO.none _
      | refine LeO.ite ?_ ?_
      | refine LeO.bind ?_ (fun _ => ?_)
set_option maxHeartbeats 8000000 in
set_option maxRecDepth 100000 in
theorem fullerlaw01_FixFloors.calls (k : Nat) (a0 : Int) (a1 : Int) (a2 : Int) (r : Bool) (w : World) (h : fullerlaw01_FixFloors.f k a0 a1 a2 = some r) :
    Calls Try.prog 3 #[.int .u16 a0, .int .u32 a1, .int .u32 a2] w fun e w' => e = .returned (.bool r) ∧ Below w.heap.size w w' := by
  have HB := Aside0.mk (Below.refl w.heap.size w)
  have H : ((fullerlaw01_awake.f k).bind fun t132 => ((fix_Div.f k (wrap64 (a0)) (wrap64 ((wrap64 (a1)) + 1))).bind fun bt133 => ((fix_Mul.f (wrap64 (a1)) (wrap64 (Int.tmod a2 65536))).bind fun bt135 => (if t132 = true then (if bt133.2 = 0 then (if bt135.2 = 0 then (if (wrap64 (bt133.1 * (wrap64 ((wrap64 (a1)) + 1)))) ≤ (wrap64 ((wrap64 (a0)) * 4294967296)) then (if (wrap64 ((wrap64 (bt133.1 + 1)) * (wrap64 ((wrap64 (a1)) + 1)))) > (wrap64 ((wrap64 (a0)) * 4294967296)) then (if (wrap64 (bt135.1 * 4294967296)) ≤ (wrap64 ((wrap64 (a1)) * (wrap64 (Int.tmod a2 65536)))) then (some (decide ((wrap64 ((wrap64 (bt135.1 + 1)) * 4294967296)) > (wrap64 ((wrap64 (a1)) * (wrap64 (Int.tmod a2 65536))))))) else (some false)) else (some false)) else (some false)) else (some false)) else (some false)) else (some false))))) = some r := h
  clear h
  replace H := Option.bind_eq_some_iff.mp H
  obtain ⟨t132, A40, H⟩ := H
  replace H : ((fix_Div.f k (wrap64 (a0)) (wrap64 ((wrap64 (a1)) + 1))).bind fun bt133 => ((fix_Mul.f (wrap64 (a1)) (wrap64 (Int.tmod a2 65536))).bind fun bt135 => (if t132 = true then (if bt133.2 = 0 then (if bt135.2 = 0 then (if (wrap64 (bt133.1 * (wrap64 ((wrap64 (a1)) + 1)))) ≤ (wrap64 ((wrap64 (a0)) * 4294967296)) then (if (wrap64 ((wrap64 (bt133.1 + 1)) * (wrap64 ((wrap64 (a1)) + 1)))) > (wrap64 ((wrap64 (a0)) * 4294967296)) then (if (wrap64 (bt135.1 * 4294967296)) ≤ (wrap64 ((wrap64 (a1)) * (wrap64 (Int.tmod a2 65536)))) then (some (decide ((wrap64 ((wrap64 (bt135.1 + 1)) * 4294967296)) > (wrap64 ((wrap64 (a1)) * (wrap64 (Int.tmod a2 65536))))))) else (some false)) else (some false)) else (some false)) else (some false)) else (some false)) else (some false)))) = some r := H
  have A4 := Aside0.mk A40
  clear A40
  replace H := Option.bind_eq_some_iff.mp H
  obtain ⟨⟨t133, t134⟩, A50, H⟩ := H
  replace H : ((fix_Mul.f (wrap64 (a1)) (wrap64 (Int.tmod a2 65536))).bind fun bt135 => (if t132 = true then (if t134 = 0 then (if bt135.2 = 0 then (if (wrap64 (t133 * (wrap64 ((wrap64 (a1)) + 1)))) ≤ (wrap64 ((wrap64 (a0)) * 4294967296)) then (if (wrap64 ((wrap64 (t133 + 1)) * (wrap64 ((wrap64 (a1)) + 1)))) > (wrap64 ((wrap64 (a0)) * 4294967296)) then (if (wrap64 (bt135.1 * 4294967296)) ≤ (wrap64 ((wrap64 (a1)) * (wrap64 (Int.tmod a2 65536)))) then (some (decide ((wrap64 ((wrap64 (bt135.1 + 1)) * 4294967296)) > (wrap64 ((wrap64 (a1)) * (wrap64 (Int.tmod a2 65536))))))) else (some false)) else (some false)) else (some false)) else (some false)) else (some false)) else (some false))) = some r := H
  have A5 := Aside0.mk A50
  clear A50
  replace H := Option.bind_eq_some_iff.mp H
  obtain ⟨⟨t135, t136⟩, A60, H⟩ := H
  replace H : (if t132 = true then (if t134 = 0 then (if t136 = 0 then (if (wrap64 (t133 * (wrap64 ((wrap64 (a1)) + 1)))) ≤ (wrap64 ((wrap64 (a0)) * 4294967296)) then (if (wrap64 ((wrap64 (t133 + 1)) * (wrap64 ((wrap64 (a1)) + 1)))) > (wrap64 ((wrap64 (a0)) * 4294967296)) then (if (wrap64 (t135 * 4294967296)) ≤ (wrap64 ((wrap64 (a1)) * (wrap64 (Int.tmod a2 65536)))) then (some (decide ((wrap64 ((wrap64 (t135 + 1)) * 4294967296)) > (wrap64 ((wrap64 (a1)) * (wrap64 (Int.tmod a2 65536))))))) else (some false)) else (some false)) else (some false)) else (some false)) else (some false)) else (some false)) = some r := H
  have A6 := Aside0.mk A60
  clear A60
  by_cases c7 : t132 = true
  · subst c7
    have H1 : (if t134 = 0 then (if t136 = 0 then (if (wrap64 (t133 * (wrap64 ((wrap64 (a1)) + 1)))) ≤ (wrap64 ((wrap64 (a0)) * 4294967296)) then (if (wrap64 ((wrap64 (t133 + 1)) * (wrap64 ((wrap64 (a1)) + 1)))) > (wrap64 ((wrap64 (a0)) * 4294967296)) then (if (wrap64 (t135 * 4294967296)) ≤ (wrap64 ((wrap64 (a1)) * (wrap64 (Int.tmod a2 65536)))) then (some (decide ((wrap64 ((wrap64 (t135 + 1)) * 4294967296)) > (wrap64 ((wrap64 (a1)) * (wrap64 (Int.tmod a2 65536))))))) else (some false)) else (some false)) else (some false)) else (some false)) else (some false)) = some r := by rw [if_pos rfl] at H; exact H
    clear H
    have H := H1
    clear H1
    by_cases c8 : t134 = 0
    · rw [if_pos c8] at H
      have c8b0 : (t134 == 0) = true := beq_iff_eq.mpr c8
      have c8b1 : (t134 != 0) = false := bne_eq_false_iff_eq.mpr c8
      clear c8
      by_cases c9 : t136 = 0
      · rw [if_pos c9] at H
        have c9b0 : (t136 == 0) = true := beq_iff_eq.mpr c9
        have c9b1 : (t136 != 0) = false := bne_eq_false_iff_eq.mpr c9
        clear c9
        by_cases c10 : (wrap64 (t133 * (wrap64 ((wrap64 (a1)) + 1)))) ≤ (wrap64 ((wrap64 (a0)) * 4294967296))
        · rw [if_pos c10] at H
          have c10b0 : decide ((wrap64 (t133 * (wrap64 ((wrap64 (a1)) + 1)))) ≤ (wrap64 ((wrap64 (a0)) * 4294967296))) = true := decide_eq_true c10
          clear c10
          by_cases c11 : (wrap64 ((wrap64 (t133 + 1)) * (wrap64 ((wrap64 (a1)) + 1)))) > (wrap64 ((wrap64 (a0)) * 4294967296))
          · rw [if_pos c11] at H
            have c11b0 : decide ((wrap64 ((wrap64 (a0)) * 4294967296)) < (wrap64 ((wrap64 (t133 + 1)) * (wrap64 ((wrap64 (a1)) + 1))))) = true := decide_eq_true c11
            clear c11
            by_cases c12 : (wrap64 (t135 * 4294967296)) ≤ (wrap64 ((wrap64 (a1)) * (wrap64 (Int.tmod a2 65536))))
            · rw [if_pos c12] at H
              have c12b0 : decide ((wrap64 (t135 * 4294967296)) ≤ (wrap64 ((wrap64 (a1)) * (wrap64 (Int.tmod a2 65536))))) = true := decide_eq_true c12
              clear c12
              obtain rfl := Option.some.inj H
              go_enter Try.func3, Try.ntmps3
              go_wp2_with (first | ((with_reducible refine gate_callee (f := 10) rfl ?_); refine goesL_ (some 15) rfl rfl Try.func10 (by kernel_rfl) rfl #[] rfl (by (try simp only [List.map_toArray, List.map_cons, List.map_nil]); first | done | rfl | (simp only [List.length_drop, List.length_take]; rfl)) ?_; (with_reducible refine (fullerlaw01_awake.calls k  true _ A4.out).mono ?_); rintro e w13 ⟨rfl, hb⟩; refine ⟨_, rfl, ?_⟩; have n0_ := Aside0.mk (below_step (bq0_ HB.out) hb); clear HB; have HB := n0_; clear n0_; (try clear hb)) | ((with_reducible refine gate_callee (f := 11) rfl ?_); refine goesL_ (some 24) rfl rfl Try.func11 (by kernel_rfl) rfl #[.int .i64 (wrap64 (a0)), .int .i64 (wrap64 ((wrap64 (a1)) + 1))] rfl (by (try simp only [List.map_toArray, List.map_cons, List.map_nil]); first | done | rfl | (simp only [List.length_drop, List.length_take]; rfl)) ?_; (with_reducible refine (fix_Div.calls k (wrap64 (a0)) (wrap64 ((wrap64 (a1)) + 1)) t133 t134 _ A5.out).mono ?_); rintro e w14 ⟨rfl, hb⟩; refine ⟨_, rfl, ?_⟩; have n0_ := Aside0.mk (below_step (bq0_ HB.out) hb); clear HB; have HB := n0_; clear n0_; (try clear hb)) | ((with_reducible refine gate_callee (f := 12) rfl ?_); refine goesL_ (some 33) rfl rfl Try.func12 (by kernel_rfl) rfl #[.int .i64 (wrap64 (a1)), .int .i64 (wrap64 (Int.tmod a2 65536))] rfl (by (try simp only [List.map_toArray, List.map_cons, List.map_nil]); first | done | rfl | (simp only [List.length_drop, List.length_take]; rfl)) ?_; (with_reducible refine (fix_Mul.calls (wrap64 (a1)) (wrap64 (Int.tmod a2 65536)) t135 t136 _ A6.out).mono ?_); rintro e w15 ⟨rfl, hb⟩; refine ⟨_, rfl, ?_⟩; have n0_ := Aside0.mk (below_step (bq0_ HB.out) hb); clear HB; have HB := n0_; clear n0_; (try clear hb)))
              go_ret
              exact ⟨by first | rfl | (simp [errW_none, errW_some] <;> rfl) | (simp [*, errW_none, errW_some] <;> rfl), by repeat (first | (with_reducible first | exact HB.out | apply below_alloc | apply pw_below_drewN | apply below_drew1) | exact HB.out)⟩
            · rw [if_neg c12] at H
              have c12b0 : decide ((wrap64 (t135 * 4294967296)) ≤ (wrap64 ((wrap64 (a1)) * (wrap64 (Int.tmod a2 65536))))) = false := decide_eq_false c12
              clear c12
              obtain rfl := Option.some.inj H
              go_enter Try.func3, Try.ntmps3
              go_wp2_with (first | ((with_reducible refine gate_callee (f := 10) rfl ?_); refine goesL_ (some 15) rfl rfl Try.func10 (by kernel_rfl) rfl #[] rfl (by (try simp only [List.map_toArray, List.map_cons, List.map_nil]); first | done | rfl | (simp only [List.length_drop, List.length_take]; rfl)) ?_; (with_reducible refine (fullerlaw01_awake.calls k  true _ A4.out).mono ?_); rintro e w16 ⟨rfl, hb⟩; refine ⟨_, rfl, ?_⟩; have n0_ := Aside0.mk (below_step (bq0_ HB.out) hb); clear HB; have HB := n0_; clear n0_; (try clear hb)) | ((with_reducible refine gate_callee (f := 11) rfl ?_); refine goesL_ (some 24) rfl rfl Try.func11 (by kernel_rfl) rfl #[.int .i64 (wrap64 (a0)), .int .i64 (wrap64 ((wrap64 (a1)) + 1))] rfl (by (try simp only [List.map_toArray, List.map_cons, List.map_nil]); first | done | rfl | (simp only [List.length_drop, List.length_take]; rfl)) ?_; (with_reducible refine (fix_Div.calls k (wrap64 (a0)) (wrap64 ((wrap64 (a1)) + 1)) t133 t134 _ A5.out).mono ?_); rintro e w17 ⟨rfl, hb⟩; refine ⟨_, rfl, ?_⟩; have n0_ := Aside0.mk (below_step (bq0_ HB.out) hb); clear HB; have HB := n0_; clear n0_; (try clear hb)) | ((with_reducible refine gate_callee (f := 12) rfl ?_); refine goesL_ (some 33) rfl rfl Try.func12 (by kernel_rfl) rfl #[.int .i64 (wrap64 (a1)), .int .i64 (wrap64 (Int.tmod a2 65536))] rfl (by (try simp only [List.map_toArray, List.map_cons, List.map_nil]); first | done | rfl | (simp only [List.length_drop, List.length_take]; rfl)) ?_; (with_reducible refine (fix_Mul.calls (wrap64 (a1)) (wrap64 (Int.tmod a2 65536)) t135 t136 _ A6.out).mono ?_); rintro e w18 ⟨rfl, hb⟩; refine ⟨_, rfl, ?_⟩; have n0_ := Aside0.mk (below_step (bq0_ HB.out) hb); clear HB; have HB := n0_; clear n0_; (try clear hb)))
              go_ret
              exact ⟨by first | rfl | (simp [errW_none, errW_some] <;> rfl) | (simp [*, errW_none, errW_some] <;> rfl), by repeat (first | (with_reducible first | exact HB.out | apply below_alloc | apply pw_below_drewN | apply below_drew1) | exact HB.out)⟩
          · rw [if_neg c11] at H
            have c11b0 : decide ((wrap64 ((wrap64 (a0)) * 4294967296)) < (wrap64 ((wrap64 (t133 + 1)) * (wrap64 ((wrap64 (a1)) + 1))))) = false := decide_eq_false c11
            clear c11
            obtain rfl := Option.some.inj H
            go_enter Try.func3, Try.ntmps3
            go_wp2_with (first | ((with_reducible refine gate_callee (f := 10) rfl ?_); refine goesL_ (some 15) rfl rfl Try.func10 (by kernel_rfl) rfl #[] rfl (by (try simp only [List.map_toArray, List.map_cons, List.map_nil]); first | done | rfl | (simp only [List.length_drop, List.length_take]; rfl)) ?_; (with_reducible refine (fullerlaw01_awake.calls k  true _ A4.out).mono ?_); rintro e w19 ⟨rfl, hb⟩; refine ⟨_, rfl, ?_⟩; have n0_ := Aside0.mk (below_step (bq0_ HB.out) hb); clear HB; have HB := n0_; clear n0_; (try clear hb)) | ((with_reducible refine gate_callee (f := 11) rfl ?_); refine goesL_ (some 24) rfl rfl Try.func11 (by kernel_rfl) rfl #[.int .i64 (wrap64 (a0)), .int .i64 (wrap64 ((wrap64 (a1)) + 1))] rfl (by (try simp only [List.map_toArray, List.map_cons, List.map_nil]); first | done | rfl | (simp only [List.length_drop, List.length_take]; rfl)) ?_; (with_reducible refine (fix_Div.calls k (wrap64 (a0)) (wrap64 ((wrap64 (a1)) + 1)) t133 t134 _ A5.out).mono ?_); rintro e w20 ⟨rfl, hb⟩; refine ⟨_, rfl, ?_⟩; have n0_ := Aside0.mk (below_step (bq0_ HB.out) hb); clear HB; have HB := n0_; clear n0_; (try clear hb)) | ((with_reducible refine gate_callee (f := 12) rfl ?_); refine goesL_ (some 33) rfl rfl Try.func12 (by kernel_rfl) rfl #[.int .i64 (wrap64 (a1)), .int .i64 (wrap64 (Int.tmod a2 65536))] rfl (by (try simp only [List.map_toArray, List.map_cons, List.map_nil]); first | done | rfl | (simp only [List.length_drop, List.length_take]; rfl)) ?_; (with_reducible refine (fix_Mul.calls (wrap64 (a1)) (wrap64 (Int.tmod a2 65536)) t135 t136 _ A6.out).mono ?_); rintro e w21 ⟨rfl, hb⟩; refine ⟨_, rfl, ?_⟩; have n0_ := Aside0.mk (below_step (bq0_ HB.out) hb); clear HB; have HB := n0_; clear n0_; (try clear hb)))
            go_ret
            exact ⟨by first | rfl | (simp [errW_none, errW_some] <;> rfl) | (simp [*, errW_none, errW_some] <;> rfl), by repeat (first | (with_reducible first | exact HB.out | apply below_alloc | apply pw_below_drewN | apply below_drew1) | exact HB.out)⟩
        · rw [if_neg c10] at H
          have c10b0 : decide ((wrap64 (t133 * (wrap64 ((wrap64 (a1)) + 1)))) ≤ (wrap64 ((wrap64 (a0)) * 4294967296))) = false := decide_eq_false c10
          clear c10
          obtain rfl := Option.some.inj H
          go_enter Try.func3, Try.ntmps3
          go_wp2_with (first | ((with_reducible refine gate_callee (f := 10) rfl ?_); refine goesL_ (some 15) rfl rfl Try.func10 (by kernel_rfl) rfl #[] rfl (by (try simp only [List.map_toArray, List.map_cons, List.map_nil]); first | done | rfl | (simp only [List.length_drop, List.length_take]; rfl)) ?_; (with_reducible refine (fullerlaw01_awake.calls k  true _ A4.out).mono ?_); rintro e w22 ⟨rfl, hb⟩; refine ⟨_, rfl, ?_⟩; have n0_ := Aside0.mk (below_step (bq0_ HB.out) hb); clear HB; have HB := n0_; clear n0_; (try clear hb)) | ((with_reducible refine gate_callee (f := 11) rfl ?_); refine goesL_ (some 24) rfl rfl Try.func11 (by kernel_rfl) rfl #[.int .i64 (wrap64 (a0)), .int .i64 (wrap64 ((wrap64 (a1)) + 1))] rfl (by (try simp only [List.map_toArray, List.map_cons, List.map_nil]); first | done | rfl | (simp only [List.length_drop, List.length_take]; rfl)) ?_; (with_reducible refine (fix_Div.calls k (wrap64 (a0)) (wrap64 ((wrap64 (a1)) + 1)) t133 t134 _ A5.out).mono ?_); rintro e w23 ⟨rfl, hb⟩; refine ⟨_, rfl, ?_⟩; have n0_ := Aside0.mk (below_step (bq0_ HB.out) hb); clear HB; have HB := n0_; clear n0_; (try clear hb)) | ((with_reducible refine gate_callee (f := 12) rfl ?_); refine goesL_ (some 33) rfl rfl Try.func12 (by kernel_rfl) rfl #[.int .i64 (wrap64 (a1)), .int .i64 (wrap64 (Int.tmod a2 65536))] rfl (by (try simp only [List.map_toArray, List.map_cons, List.map_nil]); first | done | rfl | (simp only [List.length_drop, List.length_take]; rfl)) ?_; (with_reducible refine (fix_Mul.calls (wrap64 (a1)) (wrap64 (Int.tmod a2 65536)) t135 t136 _ A6.out).mono ?_); rintro e w24 ⟨rfl, hb⟩; refine ⟨_, rfl, ?_⟩; have n0_ := Aside0.mk (below_step (bq0_ HB.out) hb); clear HB; have HB := n0_; clear n0_; (try clear hb)))
          go_ret
          exact ⟨by first | rfl | (simp [errW_none, errW_some] <;> rfl) | (simp [*, errW_none, errW_some] <;> rfl), by repeat (first | (with_reducible first | exact HB.out | apply below_alloc | apply pw_below_drewN | apply below_drew1) | exact HB.out)⟩
      · rw [if_neg c9] at H
        have c9b0 : (t136 == 0) = false := beq_eq_false_iff_ne.mpr c9
        have c9b1 : (t136 != 0) = true := bne_iff_ne.mpr c9
        obtain rfl := Option.some.inj H
        go_enter Try.func3, Try.ntmps3
        go_wp2_with (first | ((with_reducible refine gate_callee (f := 10) rfl ?_); refine goesL_ (some 15) rfl rfl Try.func10 (by kernel_rfl) rfl #[] rfl (by (try simp only [List.map_toArray, List.map_cons, List.map_nil]); first | done | rfl | (simp only [List.length_drop, List.length_take]; rfl)) ?_; (with_reducible refine (fullerlaw01_awake.calls k  true _ A4.out).mono ?_); rintro e w25 ⟨rfl, hb⟩; refine ⟨_, rfl, ?_⟩; have n0_ := Aside0.mk (below_step (bq0_ HB.out) hb); clear HB; have HB := n0_; clear n0_; (try clear hb)) | ((with_reducible refine gate_callee (f := 11) rfl ?_); refine goesL_ (some 24) rfl rfl Try.func11 (by kernel_rfl) rfl #[.int .i64 (wrap64 (a0)), .int .i64 (wrap64 ((wrap64 (a1)) + 1))] rfl (by (try simp only [List.map_toArray, List.map_cons, List.map_nil]); first | done | rfl | (simp only [List.length_drop, List.length_take]; rfl)) ?_; (with_reducible refine (fix_Div.calls k (wrap64 (a0)) (wrap64 ((wrap64 (a1)) + 1)) t133 t134 _ A5.out).mono ?_); rintro e w26 ⟨rfl, hb⟩; refine ⟨_, rfl, ?_⟩; have n0_ := Aside0.mk (below_step (bq0_ HB.out) hb); clear HB; have HB := n0_; clear n0_; (try clear hb)) | ((with_reducible refine gate_callee (f := 12) rfl ?_); refine goesL_ (some 33) rfl rfl Try.func12 (by kernel_rfl) rfl #[.int .i64 (wrap64 (a1)), .int .i64 (wrap64 (Int.tmod a2 65536))] rfl (by (try simp only [List.map_toArray, List.map_cons, List.map_nil]); first | done | rfl | (simp only [List.length_drop, List.length_take]; rfl)) ?_; (with_reducible refine (fix_Mul.calls (wrap64 (a1)) (wrap64 (Int.tmod a2 65536)) t135 t136 _ A6.out).mono ?_); rintro e w27 ⟨rfl, hb⟩; refine ⟨_, rfl, ?_⟩; have n0_ := Aside0.mk (below_step (bq0_ HB.out) hb); clear HB; have HB := n0_; clear n0_; (try clear hb)))
        go_ret
        exact ⟨by first | rfl | (simp [errW_none, errW_some] <;> rfl) | (simp [*, errW_none, errW_some] <;> rfl), by repeat (first | (with_reducible first | exact HB.out | apply below_alloc | apply pw_below_drewN | apply below_drew1) | exact HB.out)⟩
    · rw [if_neg c8] at H
      have c8b0 : (t134 == 0) = false := beq_eq_false_iff_ne.mpr c8
      have c8b1 : (t134 != 0) = true := bne_iff_ne.mpr c8
      obtain rfl := Option.some.inj H
      go_enter Try.func3, Try.ntmps3
      go_wp2_with (first | ((with_reducible refine gate_callee (f := 10) rfl ?_); refine goesL_ (some 15) rfl rfl Try.func10 (by kernel_rfl) rfl #[] rfl (by (try simp only [List.map_toArray, List.map_cons, List.map_nil]); first | done | rfl | (simp only [List.length_drop, List.length_take]; rfl)) ?_; (with_reducible refine (fullerlaw01_awake.calls k  true _ A4.out).mono ?_); rintro e w28 ⟨rfl, hb⟩; refine ⟨_, rfl, ?_⟩; have n0_ := Aside0.mk (below_step (bq0_ HB.out) hb); clear HB; have HB := n0_; clear n0_; (try clear hb)) | ((with_reducible refine gate_callee (f := 11) rfl ?_); refine goesL_ (some 24) rfl rfl Try.func11 (by kernel_rfl) rfl #[.int .i64 (wrap64 (a0)), .int .i64 (wrap64 ((wrap64 (a1)) + 1))] rfl (by (try simp only [List.map_toArray, List.map_cons, List.map_nil]); first | done | rfl | (simp only [List.length_drop, List.length_take]; rfl)) ?_; (with_reducible refine (fix_Div.calls k (wrap64 (a0)) (wrap64 ((wrap64 (a1)) + 1)) t133 t134 _ A5.out).mono ?_); rintro e w29 ⟨rfl, hb⟩; refine ⟨_, rfl, ?_⟩; have n0_ := Aside0.mk (below_step (bq0_ HB.out) hb); clear HB; have HB := n0_; clear n0_; (try clear hb)) | ((with_reducible refine gate_callee (f := 12) rfl ?_); refine goesL_ (some 33) rfl rfl Try.func12 (by kernel_rfl) rfl #[.int .i64 (wrap64 (a1)), .int .i64 (wrap64 (Int.tmod a2 65536))] rfl (by (try simp only [List.map_toArray, List.map_cons, List.map_nil]); first | done | rfl | (simp only [List.length_drop, List.length_take]; rfl)) ?_; (with_reducible refine (fix_Mul.calls (wrap64 (a1)) (wrap64 (Int.tmod a2 65536)) t135 t136 _ A6.out).mono ?_); rintro e w30 ⟨rfl, hb⟩; refine ⟨_, rfl, ?_⟩; have n0_ := Aside0.mk (below_step (bq0_ HB.out) hb); clear HB; have HB := n0_; clear n0_; (try clear hb)))
      go_ret
      exact ⟨by first | rfl | (simp [errW_none, errW_some] <;> rfl) | (simp [*, errW_none, errW_some] <;> rfl), by repeat (first | (with_reducible first | exact HB.out | apply below_alloc | apply pw_below_drewN | apply below_drew1) | exact HB.out)⟩
  · replace c7 := Bool.eq_false_iff.mpr c7
    subst c7
    have H1 : (some false) = some r := by rw [if_neg (show ¬ (false = true) by decide)] at H; exact H
    clear H
    have H := H1
    clear H1
    obtain rfl := Option.some.inj H
    go_enter Try.func3, Try.ntmps3
    go_wp2_with (first | ((with_reducible refine gate_callee (f := 10) rfl ?_); refine goesL_ (some 15) rfl rfl Try.func10 (by kernel_rfl) rfl #[] rfl (by (try simp only [List.map_toArray, List.map_cons, List.map_nil]); first | done | rfl | (simp only [List.length_drop, List.length_take]; rfl)) ?_; (with_reducible refine (fullerlaw01_awake.calls k  false _ A4.out).mono ?_); rintro e w31 ⟨rfl, hb⟩; refine ⟨_, rfl, ?_⟩; have n0_ := Aside0.mk (below_step (bq0_ HB.out) hb); clear HB; have HB := n0_; clear n0_; (try clear hb)) | ((with_reducible refine gate_callee (f := 11) rfl ?_); refine goesL_ (some 24) rfl rfl Try.func11 (by kernel_rfl) rfl #[.int .i64 (wrap64 (a0)), .int .i64 (wrap64 ((wrap64 (a1)) + 1))] rfl (by (try simp only [List.map_toArray, List.map_cons, List.map_nil]); first | done | rfl | (simp only [List.length_drop, List.length_take]; rfl)) ?_; (with_reducible refine (fix_Div.calls k (wrap64 (a0)) (wrap64 ((wrap64 (a1)) + 1)) t133 t134 _ A5.out).mono ?_); rintro e w32 ⟨rfl, hb⟩; refine ⟨_, rfl, ?_⟩; have n0_ := Aside0.mk (below_step (bq0_ HB.out) hb); clear HB; have HB := n0_; clear n0_; (try clear hb)) | ((with_reducible refine gate_callee (f := 12) rfl ?_); refine goesL_ (some 33) rfl rfl Try.func12 (by kernel_rfl) rfl #[.int .i64 (wrap64 (a1)), .int .i64 (wrap64 (Int.tmod a2 65536))] rfl (by (try simp only [List.map_toArray, List.map_cons, List.map_nil]); first | done | rfl | (simp only [List.length_drop, List.length_take]; rfl)) ?_; (with_reducible refine (fix_Mul.calls (wrap64 (a1)) (wrap64 (Int.tmod a2 65536)) t135 t136 _ A6.out).mono ?_); rintro e w33 ⟨rfl, hb⟩; refine ⟨_, rfl, ?_⟩; have n0_ := Aside0.mk (below_step (bq0_ HB.out) hb); clear HB; have HB := n0_; clear n0_; (try clear hb)))
    go_ret
    exact ⟨by first | rfl | (simp [errW_none, errW_some] <;> rfl) | (simp [*, errW_none, errW_some] <;> rfl), by repeat (first | (with_reducible first | exact HB.out | apply below_alloc | apply pw_below_drewN | apply below_drew1) | exact HB.out)⟩

/-- THE ONE PURE STATEMENT of fullerlaw01_FixFloors: yours. -/
def fullerlaw01_FixFloors.Pure : Prop := ∀ (a0 : Int) (a1 : Int) (a2 : Int), (Lit.int .u16 a0).wf = true → (Lit.int .u32 a1).wf = true → (Lit.int .u32 a2).wf = true → ∃ k, fullerlaw01_FixFloors.f k a0 a1 a2 = some true
theorem fullerlaw01_FixFloors.walk (P : fullerlaw01_FixFloors.Pure) (a0 : Int) (a1 : Int) (a2 : Int) (w : World) (w0 : (Lit.int .u16 a0).wf = true) (w1 : (Lit.int .u32 a1).wf = true) (w2 : (Lit.int .u32 a2).wf = true) :
    Calls Try.prog 3 #[.int .u16 a0, .int .u32 a1, .int .u32 a2] w fun e w' => e = .returned (.bool true) ∧ Below w.heap.size w w' := by
  obtain ⟨k, h⟩ := P a0 a1 a2 w0 w1 w2
  refine (fullerlaw01_FixFloors.calls k a0 a1 a2 true w h).mono ?_
  rintro e w' ⟨rfl, hd⟩
  exact ⟨rfl, hd⟩

end Go.Proofs.Ytkebkghhncelpaa.A
