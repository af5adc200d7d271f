/- Lean functions that answer as the Go functions do, and the proofs that they do; no conditions. Written by this session's own driver: a scratch copy of the kit's print with the session's additions (wip/xprint). -/
import Derived.Test.YtkebkghhncelpaaAx0
import Derived.Test.YtkebkghhncelpaaAx3
import Derived.Test.YtkebkghhncelpaaAx4
import Derived.Test.YtkebkghhncelpaaAx5
namespace Go.Proofs.Ytkebkghhncelpaa.A
open Go.RowKit Go.Proofs.YtkebkghhncelpaaW.PrintWords Go.Proofs.YtkebkghhncelpaaW.PrintLast Go.Proofs.YtkebkghhncelpaaW.PrintMore
attribute [local go_sem] max2_int min2_int max_two min_two max_three min_three max_four min_four   -- for this text's walks alone
set_option linter.unusedVariables false
set_option linter.unusedSimpArgs false

/-! ### fullerlaw01_awake: function 10 -/
def fullerlaw01_awake.f (k : Nat)  : Option (Bool) := (fix_Mul.f (-1) 1).bind fun bt118 => ((fix_Div.f k 4294967296 8589934592).bind fun bt120 => ((fix_Pow.f k 6442450944).bind fun bt122 => ((fix_Sqrt.f k 17179869184).bind fun bt124 => ((fix_Add.f 4611686018427387904 4611686018427387904).bind fun bt126 => ((fix_Div.f k 1 0).bind fun bt128 => ((fix_Sqrt.f k (-1)).bind fun bt130 => (if bt118.1 = (-1) then (if bt118.2 = 0 then (if bt120.1 = 2147483648 then (if bt120.2 = 0 then (if bt122.1 = 12884901888 then (if bt122.2 = 0 then (if bt124.1 = 8589934592 then (if bt124.2 = 0 then (if bt126.2 = 10 then (if bt128.2 = 11 then (if bt130.2 = 12 then (some true) else (none)) else (none)) else (none)) else (none)) else (none)) else (none)) else (none)) else (none)) else (none)) else (none)) else (none))))))))
theorem fullerlaw01_awake.mono : ∀ k, LeO (fullerlaw01_awake.f k ) (fullerlaw01_awake.f (k + 1) ) := by
  intro  k
  unfold fullerlaw01_awake.f
  repeat' first
      | (with_reducible exact fix_Div.mono _ _ _)
      | (with_reducible exact fix_Pow.mono _ _)
      | (with_reducible exact fix_Sqrt.mono _ _)
      | (with_reducible exact LeO.refl _)
      | (with_reducible exact LeO.none _)
      | (with_reducible refine LeO.ite ?_ ?_)
      | (with_reducible refine LeO.bind ?_ (fun _ => ?_))
      | exact fix_Div.mono _ _ _
      | exact fix_Pow.mono _ _
      | exact fix_Sqrt.mono _ _
      | exact LeO.none _
      | refine LeO.ite ?_ ?_
      | refine LeO.bind ?_ (fun _ => ?_)
set_option maxHeartbeats 8000000 in
set_option maxRecDepth 100000 in
theorem fullerlaw01_awake.calls (k : Nat)  (r : Bool) (w : World) (h : fullerlaw01_awake.f k  = some r) :
    Calls Try.prog 10 #[] w fun e w' => e = .returned (.bool r) ∧ Below w.heap.size w w' := by
  have HB := Aside0.mk (Below.refl w.heap.size w)
  have H : ((fix_Mul.f (-1) 1).bind fun bt118 => ((fix_Div.f k 4294967296 8589934592).bind fun bt120 => ((fix_Pow.f k 6442450944).bind fun bt122 => ((fix_Sqrt.f k 17179869184).bind fun bt124 => ((fix_Add.f 4611686018427387904 4611686018427387904).bind fun bt126 => ((fix_Div.f k 1 0).bind fun bt128 => ((fix_Sqrt.f k (-1)).bind fun bt130 => (if bt118.1 = (-1) then (if bt118.2 = 0 then (if bt120.1 = 2147483648 then (if bt120.2 = 0 then (if bt122.1 = 12884901888 then (if bt122.2 = 0 then (if bt124.1 = 8589934592 then (if bt124.2 = 0 then (if bt126.2 = 10 then (if bt128.2 = 11 then (if bt130.2 = 12 then (some true) else (none)) else (none)) else (none)) else (none)) else (none)) else (none)) else (none)) else (none)) else (none)) else (none)) else (none))))))))) = some r := h
  clear h
  replace H := Option.bind_eq_some_iff.mp H
  obtain ⟨⟨t118, t119⟩, A10, H⟩ := H
  replace H : ((fix_Div.f k 4294967296 8589934592).bind fun bt120 => ((fix_Pow.f k 6442450944).bind fun bt122 => ((fix_Sqrt.f k 17179869184).bind fun bt124 => ((fix_Add.f 4611686018427387904 4611686018427387904).bind fun bt126 => ((fix_Div.f k 1 0).bind fun bt128 => ((fix_Sqrt.f k (-1)).bind fun bt130 => (if t118 = (-1) then (if t119 = 0 then (if bt120.1 = 2147483648 then (if bt120.2 = 0 then (if bt122.1 = 12884901888 then (if bt122.2 = 0 then (if bt124.1 = 8589934592 then (if bt124.2 = 0 then (if bt126.2 = 10 then (if bt128.2 = 11 then (if bt130.2 = 12 then (some true) else (none)) else (none)) else (none)) else (none)) else (none)) else (none)) else (none)) else (none)) else (none)) else (none)) else (none)))))))) = some r := H
  have A1 := Aside0.mk A10
  clear A10
  replace H := Option.bind_eq_some_iff.mp H
  obtain ⟨⟨t120, t121⟩, A20, H⟩ := H
  replace H : ((fix_Pow.f k 6442450944).bind fun bt122 => ((fix_Sqrt.f k 17179869184).bind fun bt124 => ((fix_Add.f 4611686018427387904 4611686018427387904).bind fun bt126 => ((fix_Div.f k 1 0).bind fun bt128 => ((fix_Sqrt.f k (-1)).bind fun bt130 => (if t118 = (-1) then (if t119 = 0 then (if t120 = 2147483648 then (if t121 = 0 then (if bt122.1 = 12884901888 then (if bt122.2 = 0 then (if bt124.1 = 8589934592 then (if bt124.2 = 0 then (if bt126.2 = 10 then (if bt128.2 = 11 then (if bt130.2 = 12 then (some true) else (none)) else (none)) else (none)) else (none)) else (none)) else (none)) else (none)) else (none)) else (none)) else (none)) else (none))))))) = some r := H
  have A2 := Aside0.mk A20
  clear A20
  replace H := Option.bind_eq_some_iff.mp H
  obtain ⟨⟨t122, t123⟩, A30, H⟩ := H
  replace H : ((fix_Sqrt.f k 17179869184).bind fun bt124 => ((fix_Add.f 4611686018427387904 4611686018427387904).bind fun bt126 => ((fix_Div.f k 1 0).bind fun bt128 => ((fix_Sqrt.f k (-1)).bind fun bt130 => (if t118 = (-1) then (if t119 = 0 then (if t120 = 2147483648 then (if t121 = 0 then (if t122 = 12884901888 then (if t123 = 0 then (if bt124.1 = 8589934592 then (if bt124.2 = 0 then (if bt126.2 = 10 then (if bt128.2 = 11 then (if bt130.2 = 12 then (some true) else (none)) else (none)) else (none)) else (none)) else (none)) else (none)) else (none)) else (none)) else (none)) else (none)) else (none)))))) = some r := H
  have A3 := Aside0.mk A30
  clear A30
  replace H := Option.bind_eq_some_iff.mp H
  obtain ⟨⟨t124, t125⟩, A40, H⟩ := H
  replace H : ((fix_Add.f 4611686018427387904 4611686018427387904).bind fun bt126 => ((fix_Div.f k 1 0).bind fun bt128 => ((fix_Sqrt.f k (-1)).bind fun bt130 => (if t118 = (-1) then (if t119 = 0 then (if t120 = 2147483648 then (if t121 = 0 then (if t122 = 12884901888 then (if t123 = 0 then (if t124 = 8589934592 then (if t125 = 0 then (if bt126.2 = 10 then (if bt128.2 = 11 then (if bt130.2 = 12 then (some true) else (none)) else (none)) else (none)) else (none)) else (none)) else (none)) else (none)) else (none)) else (none)) else (none)) else (none))))) = some r := H
  have A4 := Aside0.mk A40
  clear A40
  replace H := Option.bind_eq_some_iff.mp H
  obtain ⟨⟨t126, t127⟩, A50, H⟩ := H
  replace H : ((fix_Div.f k 1 0).bind fun bt128 => ((fix_Sqrt.f k (-1)).bind fun bt130 => (if t118 = (-1) then (if t119 = 0 then (if t120 = 2147483648 then (if t121 = 0 then (if t122 = 12884901888 then (if t123 = 0 then (if t124 = 8589934592 then (if t125 = 0 then (if t127 = 10 then (if bt128.2 = 11 then (if bt130.2 = 12 then (some true) else (none)) else (none)) else (none)) else (none)) else (none)) else (none)) else (none)) else (none)) else (none)) else (none)) else (none)))) = some r := H
  have A5 := Aside0.mk A50
  clear A50
  replace H := Option.bind_eq_some_iff.mp H
  obtain ⟨⟨t128, t129⟩, A60, H⟩ := H
  replace H : ((fix_Sqrt.f k (-1)).bind fun bt130 => (if t118 = (-1) then (if t119 = 0 then (if t120 = 2147483648 then (if t121 = 0 then (if t122 = 12884901888 then (if t123 = 0 then (if t124 = 8589934592 then (if t125 = 0 then (if t127 = 10 then (if t129 = 11 then (if bt130.2 = 12 then (some true) else (none)) else (none)) else (none)) else (none)) else (none)) else (none)) else (none)) else (none)) else (none)) else (none)) else (none))) = some r := H
  have A6 := Aside0.mk A60
  clear A60
  replace H := Option.bind_eq_some_iff.mp H
  obtain ⟨⟨t130, t131⟩, A70, H⟩ := H
  replace H : (if t118 = (-1) then (if t119 = 0 then (if t120 = 2147483648 then (if t121 = 0 then (if t122 = 12884901888 then (if t123 = 0 then (if t124 = 8589934592 then (if t125 = 0 then (if t127 = 10 then (if t129 = 11 then (if t131 = 12 then (some true) else (none)) else (none)) else (none)) else (none)) else (none)) else (none)) else (none)) else (none)) else (none)) else (none)) else (none)) = some r := H
  have A7 := Aside0.mk A70
  clear A70
  by_cases c8 : t118 = (-1)
  · rw [if_pos c8] at H
    have c8b0 : (t118 == (-1)) = true := beq_iff_eq.mpr c8
    have c8b1 : (t118 != (-1)) = false := bne_eq_false_iff_eq.mpr c8
    clear c8
    by_cases c9 : t119 = 0
    · rw [if_pos c9] at H
      have c9b0 : (t119 == 0) = true := beq_iff_eq.mpr c9
      have c9b1 : (t119 != 0) = false := bne_eq_false_iff_eq.mpr c9
      clear c9
      by_cases c10 : t120 = 2147483648
      · rw [if_pos c10] at H
        have c10b0 : (t120 == 2147483648) = true := beq_iff_eq.mpr c10
        have c10b1 : (t120 != 2147483648) = false := bne_eq_false_iff_eq.mpr c10
        clear c10
        by_cases c11 : t121 = 0
        · rw [if_pos c11] at H
          have c11b0 : (t121 == 0) = true := beq_iff_eq.mpr c11
          have c11b1 : (t121 != 0) = false := bne_eq_false_iff_eq.mpr c11
          clear c11
          by_cases c12 : t122 = 12884901888
          · rw [if_pos c12] at H
            have c12b0 : (t122 == 12884901888) = true := beq_iff_eq.mpr c12
            have c12b1 : (t122 != 12884901888) = false := bne_eq_false_iff_eq.mpr c12
            clear c12
            by_cases c13 : t123 = 0
            · rw [if_pos c13] at H
              have c13b0 : (t123 == 0) = true := beq_iff_eq.mpr c13
              have c13b1 : (t123 != 0) = false := bne_eq_false_iff_eq.mpr c13
              clear c13
              by_cases c14 : t124 = 8589934592
              · rw [if_pos c14] at H
                have c14b0 : (t124 == 8589934592) = true := beq_iff_eq.mpr c14
                have c14b1 : (t124 != 8589934592) = false := bne_eq_false_iff_eq.mpr c14
                clear c14
                by_cases c15 : t125 = 0
                · rw [if_pos c15] at H
                  have c15b0 : (t125 == 0) = true := beq_iff_eq.mpr c15
                  have c15b1 : (t125 != 0) = false := bne_eq_false_iff_eq.mpr c15
                  clear c15
                  by_cases c16 : t127 = 10
                  · rw [if_pos c16] at H
                    have c16b0 : (t127 == 10) = true := beq_iff_eq.mpr c16
                    have c16b1 : (t127 != 10) = false := bne_eq_false_iff_eq.mpr c16
                    clear c16
                    by_cases c17 : t129 = 11
                    · rw [if_pos c17] at H
                      have c17b0 : (t129 == 11) = true := beq_iff_eq.mpr c17
                      have c17b1 : (t129 != 11) = false := bne_eq_false_iff_eq.mpr c17
                      clear c17
                      by_cases c18 : t131 = 12
                      · rw [if_pos c18] at H
                        have c18b0 : (t131 == 12) = true := beq_iff_eq.mpr c18
                        have c18b1 : (t131 != 12) = false := bne_eq_false_iff_eq.mpr c18
                        clear c18
                        obtain rfl := Option.some.inj H
                        go_enter Try.func10, Try.ntmps10
                        go_wp2_with (first | ((with_reducible refine gate_callee (f := 12) rfl ?_); refine goesL_ (some 16) rfl rfl Try.func12 (by kernel_rfl) rfl #[.int .i64 (-1), .int .i64 1] rfl (by (try simp only [List.map_toArray, List.map_cons, List.map_nil]); first | done | rfl | (simp only [List.length_drop, List.length_take]; rfl)) ?_; (with_reducible refine (fix_Mul.calls (-1) 1 t118 t119 _ A1.out).mono ?_); rintro e w19 ⟨rfl, hb⟩; refine ⟨_, rfl, ?_⟩; have n0_ := Aside0.mk (below_step (by repeat (first | (with_reducible first | exact HB.out | apply below_alloc | apply pw_below_drewN | apply below_drew1) | exact HB.out)) hb); clear HB; have HB := n0_; clear n0_; (try clear hb); (try clear hb2); (try clear hk); (try clear hi)) | ((with_reducible refine gate_callee (f := 11) rfl ?_); refine goesL_ (some 20) rfl rfl Try.func11 (by kernel_rfl) rfl #[.int .i64 4294967296, .int .i64 8589934592] rfl (by (try simp only [List.map_toArray, List.map_cons, List.map_nil]); first | done | rfl | (simp only [List.length_drop, List.length_take]; rfl)) ?_; (with_reducible refine (fix_Div.calls k 4294967296 8589934592 t120 t121 _ A2.out).mono ?_); rintro e w20 ⟨rfl, hb⟩; refine ⟨_, rfl, ?_⟩; have n0_ := Aside0.mk (below_step (by repeat (first | (with_reducible first | exact HB.out | apply below_alloc | apply pw_below_drewN | apply below_drew1) | exact HB.out)) hb); clear HB; have HB := n0_; clear n0_; (try clear hb); (try clear hb2); (try clear hk); (try clear hi)) | ((with_reducible refine gate_callee (f := 15) rfl ?_); refine goesL_ (some 24) rfl rfl Try.func15 (by kernel_rfl) rfl #[.int .i64 6442450944] rfl (by (try simp only [List.map_toArray, List.map_cons, List.map_nil]); first | done | rfl | (simp only [List.length_drop, List.length_take]; rfl)) ?_; (with_reducible refine (fix_Pow.calls k 6442450944 t122 t123 _ A3.out).mono ?_); rintro e w21 ⟨rfl, hb⟩; refine ⟨_, rfl, ?_⟩; have n0_ := Aside0.mk (below_step (by repeat (first | (with_reducible first | exact HB.out | apply below_alloc | apply pw_below_drewN | apply below_drew1) | exact HB.out)) hb); clear HB; have HB := n0_; clear n0_; (try clear hb); (try clear hb2); (try clear hk); (try clear hi)) | ((with_reducible refine gate_callee (f := 13) rfl ?_); refine goesL_ (some 28) rfl rfl Try.func13 (by kernel_rfl) rfl #[.int .i64 17179869184] rfl (by (try simp only [List.map_toArray, List.map_cons, List.map_nil]); first | done | rfl | (simp only [List.length_drop, List.length_take]; rfl)) ?_; (with_reducible refine (fix_Sqrt.calls k 17179869184 t124 t125 _ A4.out).mono ?_); rintro e w' ⟨rfl, ⟨nd, rfl⟩⟩; refine ⟨_, rfl, ?_⟩) | ((with_reducible refine gate_callee (f := 14) rfl ?_); refine goesL_ (some 32) rfl rfl Try.func14 (by kernel_rfl) rfl #[.int .i64 4611686018427387904, .int .i64 4611686018427387904] rfl (by (try simp only [List.map_toArray, List.map_cons, List.map_nil]); first | done | rfl | (simp only [List.length_drop, List.length_take]; rfl)) ?_; (with_reducible refine (fix_Add.calls 4611686018427387904 4611686018427387904 t126 t127 _ A5.out).mono ?_); rintro e w' ⟨rfl, ⟨nd, rfl⟩⟩; refine ⟨_, rfl, ?_⟩) | ((with_reducible refine gate_callee (f := 11) rfl ?_); refine goesL_ (some 36) rfl rfl Try.func11 (by kernel_rfl) rfl #[.int .i64 1, .int .i64 0] rfl (by (try simp only [List.map_toArray, List.map_cons, List.map_nil]); first | done | rfl | (simp only [List.length_drop, List.length_take]; rfl)) ?_; (with_reducible refine (fix_Div.calls k 1 0 t128 t129 _ A6.out).mono ?_); rintro e w22 ⟨rfl, hb⟩; refine ⟨_, rfl, ?_⟩; have n0_ := Aside0.mk (below_step (by repeat (first | (with_reducible first | exact HB.out | apply below_alloc | apply pw_below_drewN | apply below_drew1) | exact HB.out)) hb); clear HB; have HB := n0_; clear n0_; (try clear hb); (try clear hb2); (try clear hk); (try clear hi)) | ((with_reducible refine gate_callee (f := 13) rfl ?_); refine goesL_ (some 40) rfl rfl Try.func13 (by kernel_rfl) rfl #[.int .i64 (-1)] rfl (by (try simp only [List.map_toArray, List.map_cons, List.map_nil]); first | done | rfl | (simp only [List.length_drop, List.length_take]; rfl)) ?_; (with_reducible refine (fix_Sqrt.calls k (-1) t130 t131 _ A7.out).mono ?_); rintro e w' ⟨rfl, ⟨nd, rfl⟩⟩; refine ⟨_, rfl, ?_⟩))
                        go_ret
                        exact ⟨by first | rfl | (simp [errW_none, errW_some] <;> rfl) | (simp [*, errW_none, errW_some] <;> rfl), by repeat (first | (with_reducible first | exact HB.out | apply below_alloc | apply pw_below_drewN | apply below_drew1) | exact HB.out)⟩
                      · rw [if_neg c18] at H
                        exact absurd H (by simp)
                    · rw [if_neg c17] at H
                      exact absurd H (by simp)
                  · rw [if_neg c16] at H
                    exact absurd H (by simp)
                · rw [if_neg c15] at H
                  exact absurd H (by simp)
              · rw [if_neg c14] at H
                exact absurd H (by simp)
            · rw [if_neg c13] at H
              exact absurd H (by simp)
          · rw [if_neg c12] at H
            exact absurd H (by simp)
        · rw [if_neg c11] at H
          exact absurd H (by simp)
      · rw [if_neg c10] at H
        exact absurd H (by simp)
    · rw [if_neg c9] at H
      exact absurd H (by simp)
  · rw [if_neg c8] at H
    exact absurd H (by simp)

end Go.Proofs.Ytkebkghhncelpaa.A
