/- Lean functions that answer as the Go functions do, and the proofs that they do; no conditions. Written by this session's own driver: a scratch copy of the kit's print with the session's additions (wip/xprint). -/
import Derived.Test.YtkebkghhncelpaaAx0
import Derived.Test.YtkebkghhncelpaaAx3
import Derived.Test.YtkebkghhncelpaaAx4
import Derived.Test.YtkebkghhncelpaaAx6
import Derived.Test.YtkebkghhncelpaaAx9
namespace Go.Proofs.Ytkebkghhncelpaa.A
open Go.RowKit Go.Proofs.YtkebkghhncelpaaW.PrintWords Go.Proofs.YtkebkghhncelpaaW.PrintLast Go.Proofs.YtkebkghhncelpaaW.PrintMore
attribute [local go_sem] max2_int min2_int max_two min_two max_three min_three max_four min_four   -- for this text's walks alone
set_option linter.unusedVariables false
set_option linter.unusedSimpArgs false

/-! ### fullerlaw01_FixSigns: function 7 -/
def fullerlaw01_FixSigns.f (k : Nat) (a0 : Int) : Option (Bool) := (fullerlaw01_awake.f k).bind fun t166 => ((fix_Mul.f a0 4294967296).bind fun bt167 => ((fix_Div.f k a0 4294967296).bind fun bt169 => ((fix_Mul.f a0 (-4294967296)).bind fun bt171 => ((fix_Neg.f a0).bind fun bt173 => ((fix_Mul.f a0 0).bind fun bt175 => ((fix_Div.f k 0 a0).bind fun bt177 => ((fix_Div.f k a0 (-4294967296)).bind fun bt179 => (if t166 = true then (if bt167.1 = a0 then (if bt167.2 = 0 then (if bt169.1 = a0 then (if bt169.2 = 0 then (if bt171.1 = bt173.1 then (if bt171.2 = bt173.2 then (if bt179.1 = bt173.1 then (if bt179.2 = bt173.2 then (if bt175.1 = 0 then (if bt175.2 = 0 then (if a0 = 0 then (if bt177.2 = 11 then (some true) else (none)) else (if bt177.1 = 0 then (some (bt177.2 == 0)) else (none))) else (none)) else (none)) else (none)) else (none)) else (none)) else (none)) else (none)) else (none)) else (none)) else (none)) else (none)))))))))
theorem fullerlaw01_FixSigns.mono : ∀ a0 k, LeO (fullerlaw01_FixSigns.f k a0) (fullerlaw01_FixSigns.f (k + 1) a0) := by
  intro a0 k
  unfold fullerlaw01_FixSigns.f
  repeat' first
      | (with_reducible exact fix_Div.mono _ _ _)
      | (with_reducible exact fullerlaw01_awake.mono _)
      | (with_reducible exact LeO.refl _)
      | (with_reducible exact LeO.none _)
      | (with_reducible refine LeO.ite ?_ ?_)
      | (with_reducible refine LeO.bind ?_ (fun _ => ?_))
      | exact fix_Div.mono _ _ _
      | exact fullerlaw01_awake.mono _
      | exact LeO.none _
      | refine LeO.ite ?_ ?_
      | refine LeO.bind ?_ (fun _ => ?_)
set_option maxHeartbeats 8000000 in
set_option maxRecDepth 100000 in
theorem fullerlaw01_FixSigns.calls (k : Nat) (a0 : Int) (r : Bool) (w : World) (h : fullerlaw01_FixSigns.f k a0 = some r) :
    Calls Try.prog 7 #[.int .i64 a0] w fun e w' => e = .returned (.bool r) ∧ Below w.heap.size w w' := by
  have HB := Aside0.mk (Below.refl w.heap.size w)
  have H : ((fullerlaw01_awake.f k).bind fun t166 => ((fix_Mul.f a0 4294967296).bind fun bt167 => ((fix_Div.f k a0 4294967296).bind fun bt169 => ((fix_Mul.f a0 (-4294967296)).bind fun bt171 => ((fix_Neg.f a0).bind fun bt173 => ((fix_Mul.f a0 0).bind fun bt175 => ((fix_Div.f k 0 a0).bind fun bt177 => ((fix_Div.f k a0 (-4294967296)).bind fun bt179 => (if t166 = true then (if bt167.1 = a0 then (if bt167.2 = 0 then (if bt169.1 = a0 then (if bt169.2 = 0 then (if bt171.1 = bt173.1 then (if bt171.2 = bt173.2 then (if bt179.1 = bt173.1 then (if bt179.2 = bt173.2 then (if bt175.1 = 0 then (if bt175.2 = 0 then (if a0 = 0 then (if bt177.2 = 11 then (some true) else (none)) else (if bt177.1 = 0 then (some (bt177.2 == 0)) else (none))) else (none)) else (none)) else (none)) else (none)) else (none)) else (none)) else (none)) else (none)) else (none)) else (none)) else (none)))))))))) = some r := h
  clear h
  replace H := Option.bind_eq_some_iff.mp H
  obtain ⟨t166, A20, H⟩ := H
  replace H : ((fix_Mul.f a0 4294967296).bind fun bt167 => ((fix_Div.f k a0 4294967296).bind fun bt169 => ((fix_Mul.f a0 (-4294967296)).bind fun bt171 => ((fix_Neg.f a0).bind fun bt173 => ((fix_Mul.f a0 0).bind fun bt175 => ((fix_Div.f k 0 a0).bind fun bt177 => ((fix_Div.f k a0 (-4294967296)).bind fun bt179 => (if t166 = true then (if bt167.1 = a0 then (if bt167.2 = 0 then (if bt169.1 = a0 then (if bt169.2 = 0 then (if bt171.1 = bt173.1 then (if bt171.2 = bt173.2 then (if bt179.1 = bt173.1 then (if bt179.2 = bt173.2 then (if bt175.1 = 0 then (if bt175.2 = 0 then (if a0 = 0 then (if bt177.2 = 11 then (some true) else (none)) else (if bt177.1 = 0 then (some (bt177.2 == 0)) else (none))) else (none)) else (none)) else (none)) else (none)) else (none)) else (none)) else (none)) else (none)) else (none)) else (none)) else (none))))))))) = some r := H
  have A2 := Aside0.mk A20
  clear A20
  replace H := Option.bind_eq_some_iff.mp H
  obtain ⟨⟨t167, t168⟩, A30, H⟩ := H
  replace H : ((fix_Div.f k a0 4294967296).bind fun bt169 => ((fix_Mul.f a0 (-4294967296)).bind fun bt171 => ((fix_Neg.f a0).bind fun bt173 => ((fix_Mul.f a0 0).bind fun bt175 => ((fix_Div.f k 0 a0).bind fun bt177 => ((fix_Div.f k a0 (-4294967296)).bind fun bt179 => (if t166 = true then (if t167 = a0 then (if t168 = 0 then (if bt169.1 = a0 then (if bt169.2 = 0 then (if bt171.1 = bt173.1 then (if bt171.2 = bt173.2 then (if bt179.1 = bt173.1 then (if bt179.2 = bt173.2 then (if bt175.1 = 0 then (if bt175.2 = 0 then (if a0 = 0 then (if bt177.2 = 11 then (some true) else (none)) else (if bt177.1 = 0 then (some (bt177.2 == 0)) else (none))) else (none)) else (none)) else (none)) else (none)) else (none)) else (none)) else (none)) else (none)) else (none)) else (none)) else (none)))))))) = some r := H
  have A3 := Aside0.mk A30
  clear A30
  replace H := Option.bind_eq_some_iff.mp H
  obtain ⟨⟨t169, t170⟩, A40, H⟩ := H
  replace H : ((fix_Mul.f a0 (-4294967296)).bind fun bt171 => ((fix_Neg.f a0).bind fun bt173 => ((fix_Mul.f a0 0).bind fun bt175 => ((fix_Div.f k 0 a0).bind fun bt177 => ((fix_Div.f k a0 (-4294967296)).bind fun bt179 => (if t166 = true then (if t167 = a0 then (if t168 = 0 then (if t169 = a0 then (if t170 = 0 then (if bt171.1 = bt173.1 then (if bt171.2 = bt173.2 then (if bt179.1 = bt173.1 then (if bt179.2 = bt173.2 then (if bt175.1 = 0 then (if bt175.2 = 0 then (if a0 = 0 then (if bt177.2 = 11 then (some true) else (none)) else (if bt177.1 = 0 then (some (bt177.2 == 0)) else (none))) else (none)) else (none)) else (none)) else (none)) else (none)) else (none)) else (none)) else (none)) else (none)) else (none)) else (none))))))) = some r := H
  have A4 := Aside0.mk A40
  clear A40
  replace H := Option.bind_eq_some_iff.mp H
  obtain ⟨⟨t171, t172⟩, A50, H⟩ := H
  replace H : ((fix_Neg.f a0).bind fun bt173 => ((fix_Mul.f a0 0).bind fun bt175 => ((fix_Div.f k 0 a0).bind fun bt177 => ((fix_Div.f k a0 (-4294967296)).bind fun bt179 => (if t166 = true then (if t167 = a0 then (if t168 = 0 then (if t169 = a0 then (if t170 = 0 then (if t171 = bt173.1 then (if t172 = bt173.2 then (if bt179.1 = bt173.1 then (if bt179.2 = bt173.2 then (if bt175.1 = 0 then (if bt175.2 = 0 then (if a0 = 0 then (if bt177.2 = 11 then (some true) else (none)) else (if bt177.1 = 0 then (some (bt177.2 == 0)) else (none))) else (none)) else (none)) else (none)) else (none)) else (none)) else (none)) else (none)) else (none)) else (none)) else (none)) else (none)))))) = some r := H
  have A5 := Aside0.mk A50
  clear A50
  replace H := Option.bind_eq_some_iff.mp H
  obtain ⟨⟨t173, t174⟩, A60, H⟩ := H
  replace H : ((fix_Mul.f a0 0).bind fun bt175 => ((fix_Div.f k 0 a0).bind fun bt177 => ((fix_Div.f k a0 (-4294967296)).bind fun bt179 => (if t166 = true then (if t167 = a0 then (if t168 = 0 then (if t169 = a0 then (if t170 = 0 then (if t171 = t173 then (if t172 = t174 then (if bt179.1 = t173 then (if bt179.2 = t174 then (if bt175.1 = 0 then (if bt175.2 = 0 then (if a0 = 0 then (if bt177.2 = 11 then (some true) else (none)) else (if bt177.1 = 0 then (some (bt177.2 == 0)) else (none))) else (none)) else (none)) else (none)) else (none)) else (none)) else (none)) else (none)) else (none)) else (none)) else (none)) else (none))))) = some r := H
  have A6 := Aside0.mk A60
  clear A60
  replace H := Option.bind_eq_some_iff.mp H
  obtain ⟨⟨t175, t176⟩, A70, H⟩ := H
  replace H : ((fix_Div.f k 0 a0).bind fun bt177 => ((fix_Div.f k a0 (-4294967296)).bind fun bt179 => (if t166 = true then (if t167 = a0 then (if t168 = 0 then (if t169 = a0 then (if t170 = 0 then (if t171 = t173 then (if t172 = t174 then (if bt179.1 = t173 then (if bt179.2 = t174 then (if t175 = 0 then (if t176 = 0 then (if a0 = 0 then (if bt177.2 = 11 then (some true) else (none)) else (if bt177.1 = 0 then (some (bt177.2 == 0)) else (none))) else (none)) else (none)) else (none)) else (none)) else (none)) else (none)) else (none)) else (none)) else (none)) else (none)) else (none)))) = some r := H
  have A7 := Aside0.mk A70
  clear A70
  replace H := Option.bind_eq_some_iff.mp H
  obtain ⟨⟨t177, t178⟩, A80, H⟩ := H
  replace H : ((fix_Div.f k a0 (-4294967296)).bind fun bt179 => (if t166 = true then (if t167 = a0 then (if t168 = 0 then (if t169 = a0 then (if t170 = 0 then (if t171 = t173 then (if t172 = t174 then (if bt179.1 = t173 then (if bt179.2 = t174 then (if t175 = 0 then (if t176 = 0 then (if a0 = 0 then (if t178 = 11 then (some true) else (none)) else (if t177 = 0 then (some (t178 == 0)) else (none))) else (none)) else (none)) else (none)) else (none)) else (none)) else (none)) else (none)) else (none)) else (none)) else (none)) else (none))) = some r := H
  have A8 := Aside0.mk A80
  clear A80
  replace H := Option.bind_eq_some_iff.mp H
  obtain ⟨⟨t179, t180⟩, A90, H⟩ := H
  replace H : (if t166 = true then (if t167 = a0 then (if t168 = 0 then (if t169 = a0 then (if t170 = 0 then (if t171 = t173 then (if t172 = t174 then (if t179 = t173 then (if t180 = t174 then (if t175 = 0 then (if t176 = 0 then (if a0 = 0 then (if t178 = 11 then (some true) else (none)) else (if t177 = 0 then (some (t178 == 0)) else (none))) else (none)) else (none)) else (none)) else (none)) else (none)) else (none)) else (none)) else (none)) else (none)) else (none)) else (none)) = some r := H
  have A9 := Aside0.mk A90
  clear A90
  by_cases c10 : t166 = true
  · subst c10
    have H1 : (if t167 = a0 then (if t168 = 0 then (if t169 = a0 then (if t170 = 0 then (if t171 = t173 then (if t172 = t174 then (if t179 = t173 then (if t180 = t174 then (if t175 = 0 then (if t176 = 0 then (if a0 = 0 then (if t178 = 11 then (some true) else (none)) else (if t177 = 0 then (some (t178 == 0)) else (none))) else (none)) else (none)) else (none)) else (none)) else (none)) else (none)) else (none)) else (none)) else (none)) else (none)) = some r := by rw [if_pos rfl] at H; exact H
    clear H
    have H := H1
    clear H1
    by_cases c11 : t167 = a0
    · rw [if_pos c11] at H
      have c11b0 : (t167 == a0) = true := beq_iff_eq.mpr c11
      have c11b1 : (t167 != a0) = false := bne_eq_false_iff_eq.mpr c11
      clear c11
      by_cases c12 : t168 = 0
      · rw [if_pos c12] at H
        have c12b0 : (t168 == 0) = true := beq_iff_eq.mpr c12
        have c12b1 : (t168 != 0) = false := bne_eq_false_iff_eq.mpr c12
        clear c12
        by_cases c13 : t169 = a0
        · rw [if_pos c13] at H
          have c13b0 : (t169 == a0) = true := beq_iff_eq.mpr c13
          have c13b1 : (t169 != a0) = false := bne_eq_false_iff_eq.mpr c13
          clear c13
          by_cases c14 : t170 = 0
          · rw [if_pos c14] at H
            have c14b0 : (t170 == 0) = true := beq_iff_eq.mpr c14
            have c14b1 : (t170 != 0) = false := bne_eq_false_iff_eq.mpr c14
            clear c14
            by_cases c15 : t171 = t173
            · rw [if_pos c15] at H
              have c15b0 : (t171 == t173) = true := beq_iff_eq.mpr c15
              have c15b1 : (t171 != t173) = false := bne_eq_false_iff_eq.mpr c15
              clear c15
              by_cases c16 : t172 = t174
              · rw [if_pos c16] at H
                have c16b0 : (t172 == t174) = true := beq_iff_eq.mpr c16
                have c16b1 : (t172 != t174) = false := bne_eq_false_iff_eq.mpr c16
                clear c16
                by_cases c17 : t179 = t173
                · rw [if_pos c17] at H
                  have c17b0 : (t179 == t173) = true := beq_iff_eq.mpr c17
                  have c17b1 : (t179 != t173) = false := bne_eq_false_iff_eq.mpr c17
                  clear c17
                  by_cases c18 : t180 = t174
                  · rw [if_pos c18] at H
                    have c18b0 : (t180 == t174) = true := beq_iff_eq.mpr c18
                    have c18b1 : (t180 != t174) = false := bne_eq_false_iff_eq.mpr c18
                    clear c18
                    by_cases c19 : t175 = 0
                    · rw [if_pos c19] at H
                      have c19b0 : (t175 == 0) = true := beq_iff_eq.mpr c19
                      have c19b1 : (t175 != 0) = false := bne_eq_false_iff_eq.mpr c19
                      clear c19
                      by_cases c20 : t176 = 0
                      · rw [if_pos c20] at H
                        have c20b0 : (t176 == 0) = true := beq_iff_eq.mpr c20
                        have c20b1 : (t176 != 0) = false := bne_eq_false_iff_eq.mpr c20
                        clear c20
                        by_cases c21 : a0 = 0
                        · rw [if_pos c21] at H
                          have c21b0 : (a0 == 0) = true := beq_iff_eq.mpr c21
                          have c21b1 : (a0 != 0) = false := bne_eq_false_iff_eq.mpr c21
                          clear c21
                          by_cases c22 : t178 = 11
                          · rw [if_pos c22] at H
                            have c22b0 : (t178 == 11) = true := beq_iff_eq.mpr c22
                            have c22b1 : (t178 != 11) = false := bne_eq_false_iff_eq.mpr c22
                            clear c22
                            obtain rfl := Option.some.inj H
                            go_enter Try.func7, Try.ntmps7
                            go_wp2_with (first | ((with_reducible refine gate_callee (f := 10) rfl ?_); refine goesL_ (some 18) rfl rfl Try.func10 (by kernel_rfl) rfl #[] rfl (by (try simp only [List.map_toArray, List.map_cons, List.map_nil]); first | done | rfl | (simp only [List.length_drop, List.length_take]; rfl)) ?_; (with_reducible refine (fullerlaw01_awake.calls k  true _ A2.out).mono ?_); rintro e w23 ⟨rfl, hb⟩; refine ⟨_, rfl, ?_⟩; have n0_ := Aside0.mk (below_step (bq0_ HB.out) hb); clear HB; have HB := n0_; clear n0_; (try clear hb)) | ((with_reducible refine gate_callee (f := 12) rfl ?_); refine goesL_ (some 21) rfl rfl Try.func12 (by kernel_rfl) rfl #[.int .i64 a0, .int .i64 4294967296] rfl (by (try simp only [List.map_toArray, List.map_cons, List.map_nil]); first | done | rfl | (simp only [List.length_drop, List.length_take]; rfl)) ?_; (with_reducible refine (fix_Mul.calls a0 4294967296 t167 t168 _ A3.out).mono ?_); rintro e w24 ⟨rfl, hb⟩; refine ⟨_, rfl, ?_⟩; have n0_ := Aside0.mk (below_step (bq0_ HB.out) hb); clear HB; have HB := n0_; clear n0_; (try clear hb)) | ((with_reducible refine gate_callee (f := 11) rfl ?_); refine goesL_ (some 26) rfl rfl Try.func11 (by kernel_rfl) rfl #[.int .i64 a0, .int .i64 4294967296] rfl (by (try simp only [List.map_toArray, List.map_cons, List.map_nil]); first | done | rfl | (simp only [List.length_drop, List.length_take]; rfl)) ?_; (with_reducible refine (fix_Div.calls k a0 4294967296 t169 t170 _ A4.out).mono ?_); rintro e w25 ⟨rfl, hb⟩; refine ⟨_, rfl, ?_⟩; have n0_ := Aside0.mk (below_step (bq0_ HB.out) hb); clear HB; have HB := n0_; clear n0_; (try clear hb)) | ((with_reducible refine gate_callee (f := 12) rfl ?_); refine goesL_ (some 31) rfl rfl Try.func12 (by kernel_rfl) rfl #[.int .i64 a0, .int .i64 (-4294967296)] rfl (by (try simp only [List.map_toArray, List.map_cons, List.map_nil]); first | done | rfl | (simp only [List.length_drop, List.length_take]; rfl)) ?_; (with_reducible refine (fix_Mul.calls a0 (-4294967296) t171 t172 _ A5.out).mono ?_); rintro e w26 ⟨rfl, hb⟩; refine ⟨_, rfl, ?_⟩; have n0_ := Aside0.mk (below_step (bq0_ HB.out) hb); clear HB; have HB := n0_; clear n0_; (try clear hb)) | ((with_reducible refine gate_callee (f := 16) rfl ?_); refine goesL_ (some 36) rfl rfl Try.func16 (by kernel_rfl) rfl #[.int .i64 a0] rfl (by (try simp only [List.map_toArray, List.map_cons, List.map_nil]); first | done | rfl | (simp only [List.length_drop, List.length_take]; rfl)) ?_; (with_reducible refine (fix_Neg.calls a0 t173 t174 _ A6.out).mono ?_); rintro e w' ⟨rfl, ⟨nd, rfl⟩⟩; refine ⟨_, rfl, ?_⟩) | ((with_reducible refine gate_callee (f := 12) rfl ?_); refine goesL_ (some 41) rfl rfl Try.func12 (by kernel_rfl) rfl #[.int .i64 a0, .int .i64 0] rfl (by (try simp only [List.map_toArray, List.map_cons, List.map_nil]); first | done | rfl | (simp only [List.length_drop, List.length_take]; rfl)) ?_; (with_reducible refine (fix_Mul.calls a0 0 t175 t176 _ A7.out).mono ?_); rintro e w27 ⟨rfl, hb⟩; refine ⟨_, rfl, ?_⟩; have n0_ := Aside0.mk (below_step (bq0_ HB.out) hb); clear HB; have HB := n0_; clear n0_; (try clear hb)) | ((with_reducible refine gate_callee (f := 11) rfl ?_); refine goesL_ (some 46) rfl rfl Try.func11 (by kernel_rfl) rfl #[.int .i64 0, .int .i64 a0] rfl (by (try simp only [List.map_toArray, List.map_cons, List.map_nil]); first | done | rfl | (simp only [List.length_drop, List.length_take]; rfl)) ?_; (with_reducible refine (fix_Div.calls k 0 a0 t177 t178 _ A8.out).mono ?_); rintro e w28 ⟨rfl, hb⟩; refine ⟨_, rfl, ?_⟩; have n0_ := Aside0.mk (below_step (bq0_ HB.out) hb); clear HB; have HB := n0_; clear n0_; (try clear hb)) | ((with_reducible refine gate_callee (f := 11) rfl ?_); refine goesL_ (some 51) rfl rfl Try.func11 (by kernel_rfl) rfl #[.int .i64 a0, .int .i64 (-4294967296)] rfl (by (try simp only [List.map_toArray, List.map_cons, List.map_nil]); first | done | rfl | (simp only [List.length_drop, List.length_take]; rfl)) ?_; (with_reducible refine (fix_Div.calls k a0 (-4294967296) t179 t180 _ A9.out).mono ?_); rintro e w29 ⟨rfl, hb⟩; refine ⟨_, rfl, ?_⟩; have n0_ := Aside0.mk (below_step (bq0_ HB.out) hb); clear HB; have HB := n0_; clear n0_; (try clear hb)))
                            all_goals
                              go_ret
                              exact ⟨by first | rfl | (simp [errW_none, errW_some] <;> rfl) | (simp [*, errW_none, errW_some] <;> rfl), by repeat (first | (with_reducible first | exact HB.out | apply below_alloc | apply pw_below_drewN | apply below_drew1) | exact HB.out)⟩
                          · rw [if_neg c22] at H
                            exact absurd H (by simp)
                        · rw [if_neg c21] at H
                          have c21b0 : (a0 == 0) = false := beq_eq_false_iff_ne.mpr c21
                          have c21b1 : (a0 != 0) = true := bne_iff_ne.mpr c21
                          by_cases c30 : t177 = 0
                          · rw [if_pos c30] at H
                            have c30b0 : (t177 == 0) = true := beq_iff_eq.mpr c30
                            have c30b1 : (t177 != 0) = false := bne_eq_false_iff_eq.mpr c30
                            clear c30
                            obtain rfl := Option.some.inj H
                            go_enter Try.func7, Try.ntmps7
                            go_wp2_with (first | ((with_reducible refine gate_callee (f := 10) rfl ?_); refine goesL_ (some 18) rfl rfl Try.func10 (by kernel_rfl) rfl #[] rfl (by (try simp only [List.map_toArray, List.map_cons, List.map_nil]); first | done | rfl | (simp only [List.length_drop, List.length_take]; rfl)) ?_; (with_reducible refine (fullerlaw01_awake.calls k  true _ A2.out).mono ?_); rintro e w31 ⟨rfl, hb⟩; refine ⟨_, rfl, ?_⟩; have n0_ := Aside0.mk (below_step (bq0_ HB.out) hb); clear HB; have HB := n0_; clear n0_; (try clear hb)) | ((with_reducible refine gate_callee (f := 12) rfl ?_); refine goesL_ (some 21) rfl rfl Try.func12 (by kernel_rfl) rfl #[.int .i64 a0, .int .i64 4294967296] rfl (by (try simp only [List.map_toArray, List.map_cons, List.map_nil]); first | done | rfl | (simp only [List.length_drop, List.length_take]; rfl)) ?_; (with_reducible refine (fix_Mul.calls a0 4294967296 t167 t168 _ A3.out).mono ?_); rintro e w32 ⟨rfl, hb⟩; refine ⟨_, rfl, ?_⟩; have n0_ := Aside0.mk (below_step (bq0_ HB.out) hb); clear HB; have HB := n0_; clear n0_; (try clear hb)) | ((with_reducible refine gate_callee (f := 11) rfl ?_); refine goesL_ (some 26) rfl rfl Try.func11 (by kernel_rfl) rfl #[.int .i64 a0, .int .i64 4294967296] rfl (by (try simp only [List.map_toArray, List.map_cons, List.map_nil]); first | done | rfl | (simp only [List.length_drop, List.length_take]; rfl)) ?_; (with_reducible refine (fix_Div.calls k a0 4294967296 t169 t170 _ A4.out).mono ?_); rintro e w33 ⟨rfl, hb⟩; refine ⟨_, rfl, ?_⟩; have n0_ := Aside0.mk (below_step (bq0_ HB.out) hb); clear HB; have HB := n0_; clear n0_; (try clear hb)) | ((with_reducible refine gate_callee (f := 12) rfl ?_); refine goesL_ (some 31) rfl rfl Try.func12 (by kernel_rfl) rfl #[.int .i64 a0, .int .i64 (-4294967296)] rfl (by (try simp only [List.map_toArray, List.map_cons, List.map_nil]); first | done | rfl | (simp only [List.length_drop, List.length_take]; rfl)) ?_; (with_reducible refine (fix_Mul.calls a0 (-4294967296) t171 t172 _ A5.out).mono ?_); rintro e w34 ⟨rfl, hb⟩; refine ⟨_, rfl, ?_⟩; have n0_ := Aside0.mk (below_step (bq0_ HB.out) hb); clear HB; have HB := n0_; clear n0_; (try clear hb)) | ((with_reducible refine gate_callee (f := 16) rfl ?_); refine goesL_ (some 36) rfl rfl Try.func16 (by kernel_rfl) rfl #[.int .i64 a0] rfl (by (try simp only [List.map_toArray, List.map_cons, List.map_nil]); first | done | rfl | (simp only [List.length_drop, List.length_take]; rfl)) ?_; (with_reducible refine (fix_Neg.calls a0 t173 t174 _ A6.out).mono ?_); rintro e w' ⟨rfl, ⟨nd, rfl⟩⟩; refine ⟨_, rfl, ?_⟩) | ((with_reducible refine gate_callee (f := 12) rfl ?_); refine goesL_ (some 41) rfl rfl Try.func12 (by kernel_rfl) rfl #[.int .i64 a0, .int .i64 0] rfl (by (try simp only [List.map_toArray, List.map_cons, List.map_nil]); first | done | rfl | (simp only [List.length_drop, List.length_take]; rfl)) ?_; (with_reducible refine (fix_Mul.calls a0 0 t175 t176 _ A7.out).mono ?_); rintro e w35 ⟨rfl, hb⟩; refine ⟨_, rfl, ?_⟩; have n0_ := Aside0.mk (below_step (bq0_ HB.out) hb); clear HB; have HB := n0_; clear n0_; (try clear hb)) | ((with_reducible refine gate_callee (f := 11) rfl ?_); refine goesL_ (some 46) rfl rfl Try.func11 (by kernel_rfl) rfl #[.int .i64 0, .int .i64 a0] rfl (by (try simp only [List.map_toArray, List.map_cons, List.map_nil]); first | done | rfl | (simp only [List.length_drop, List.length_take]; rfl)) ?_; (with_reducible refine (fix_Div.calls k 0 a0 t177 t178 _ A8.out).mono ?_); rintro e w36 ⟨rfl, hb⟩; refine ⟨_, rfl, ?_⟩; have n0_ := Aside0.mk (below_step (bq0_ HB.out) hb); clear HB; have HB := n0_; clear n0_; (try clear hb)) | ((with_reducible refine gate_callee (f := 11) rfl ?_); refine goesL_ (some 51) rfl rfl Try.func11 (by kernel_rfl) rfl #[.int .i64 a0, .int .i64 (-4294967296)] rfl (by (try simp only [List.map_toArray, List.map_cons, List.map_nil]); first | done | rfl | (simp only [List.length_drop, List.length_take]; rfl)) ?_; (with_reducible refine (fix_Div.calls k a0 (-4294967296) t179 t180 _ A9.out).mono ?_); rintro e w37 ⟨rfl, hb⟩; refine ⟨_, rfl, ?_⟩; have n0_ := Aside0.mk (below_step (bq0_ HB.out) hb); clear HB; have HB := n0_; clear n0_; (try clear hb)))
                            all_goals
                              go_ret
                              exact ⟨by first | rfl | (simp [errW_none, errW_some] <;> rfl) | (simp [*, errW_none, errW_some] <;> rfl), by repeat (first | (with_reducible first | exact HB.out | apply below_alloc | apply pw_below_drewN | apply below_drew1) | exact HB.out)⟩
                          · rw [if_neg c30] at H
                            exact absurd H (by simp)
                      · rw [if_neg c20] at H
                        exact absurd H (by simp)
                    · rw [if_neg c19] at H
                      exact absurd H (by simp)
                  · rw [if_neg c18] at H
                    exact absurd H (by simp)
                · rw [if_neg c17] at H
                  exact absurd H (by simp)
              · rw [if_neg c16] at H
                exact absurd H (by simp)
            · rw [if_neg c15] at H
              exact absurd H (by simp)
          · rw [if_neg c14] at H
            exact absurd H (by simp)
        · rw [if_neg c13] at H
          exact absurd H (by simp)
      · rw [if_neg c12] at H
        exact absurd H (by simp)
    · rw [if_neg c11] at H
      exact absurd H (by simp)
  · replace c10 := Bool.eq_false_iff.mpr c10
    subst c10
    have H1 : (none) = some r := by rw [if_neg (show ¬ (false = true) by decide)] at H; exact H
    clear H
    have H := H1
    clear H1
    exact absurd H (by simp)

/-- THE ONE PURE STATEMENT of fullerlaw01_FixSigns: yours. -/
def fullerlaw01_FixSigns.Pure : Prop := ∀ (a0 : Int), (Lit.int .i64 a0).wf = true → ∃ k, fullerlaw01_FixSigns.f k a0 = some true
theorem fullerlaw01_FixSigns.walk (P : fullerlaw01_FixSigns.Pure) (a0 : Int) (w : World) (w0 : (Lit.int .i64 a0).wf = true) :
    Calls Try.prog 7 #[.int .i64 a0] w fun e w' => e = .returned (.bool true) ∧ Below w.heap.size w w' := by
  obtain ⟨k, h⟩ := P a0 w0
  refine (fullerlaw01_FixSigns.calls k a0 true w h).mono ?_
  rintro e w' ⟨rfl, hd⟩
  exact ⟨rfl, hd⟩

/-! ### fix_Sub: function 17 -/
def fix_Sub.f (a0 : Int) (a1 : Int) : Option (Int × Int) := if ((decide (a0 < 0)) == (decide (a1 < 0))) = true then ((fix_told.f (wrap64 (a0 - a1)) true).bind fun bt181 => (some (bt181.1, bt181.2))) else ((fix_told.f (wrap64 (a0 - a1)) ((decide ((wrap64 (a0 - a1)) < 0)) == (decide (a0 < 0)))).bind fun bt183 => (some (bt183.1, bt183.2)))
set_option maxHeartbeats 8000000 in
set_option maxRecDepth 100000 in
theorem fix_Sub.calls (a0 : Int) (a1 : Int) (r1 : Int) (r2 : Int) (w : World) (h : fix_Sub.f a0 a1 = some (r1, r2)) :
    Calls Try.prog 17 #[.int .i64 a0, .int .i64 a1] w fun e w' => e = .returned (.tuple #[.int .i64 r1, .int .i64 r2]) ∧ Drawn0 w w' := by
  have H : (if ((decide (a0 < 0)) == (decide (a1 < 0))) = true then ((fix_told.f (wrap64 (a0 - a1)) true).bind fun bt181 => (some (bt181.1, bt181.2))) else ((fix_told.f (wrap64 (a0 - a1)) ((decide ((wrap64 (a0 - a1)) < 0)) == (decide (a0 < 0)))).bind fun bt183 => (some (bt183.1, bt183.2)))) = some (r1, r2) := h
  clear h
  by_cases c3 : ((decide (a0 < 0)) == (decide (a1 < 0))) = true
  · rw [if_pos c3] at H
    have c3b0 : ((decide (a0 < 0)) == (decide (a1 < 0))) = true := c3
    (try (have c3b1 : decide ((decide (a0 < 0)) = (decide (a1 < 0))) = true := by simpa using c3))
    (try (have c3b2 : ((decide (a0 < 0)) == (decide (a1 < 0))) = true := by simpa using c3))
    clear c3
    replace H := Option.bind_eq_some_iff.mp H
    obtain ⟨⟨t181, t182⟩, A40, H⟩ := H
    replace H : (some (t181, t182)) = some (r1, r2) := H
    have A4 := Aside0.mk A40
    clear A40
    simp only [Option.some.injEq, Prod.mk.injEq] at H
    obtain ⟨rfl, rfl⟩ := H
    go_enter Try.func17, Try.ntmps17
    go_wp2_with (first | ((with_reducible refine gate_callee (f := 33) rfl ?_); refine goesL_ (some 23) rfl rfl Try.func33 (by kernel_rfl) rfl #[.int .i64 (wrap64 (a0 - a1)), .bool true] rfl (by (try simp only [List.map_toArray, List.map_cons, List.map_nil]); first | done | rfl | (simp only [List.length_drop, List.length_take]; rfl)) ?_; (with_reducible refine (fix_told.calls (wrap64 (a0 - a1)) true t181 t182 _ A4.out).mono ?_); rintro e w' ⟨rfl, ⟨nd, rfl⟩⟩; refine ⟨_, rfl, ?_⟩))
    go_ret2
    exact ⟨by first | rfl | (simp; done) | (simp [*]; done), by repeat (first | exact Drawn0.refl _ | apply Drawn0.step)⟩
  · rw [if_neg c3] at H
    have c3b0 : ((decide (a0 < 0)) == (decide (a1 < 0))) = false := by simpa using c3
    (try (have c3b1 : decide ((decide (a0 < 0)) = (decide (a1 < 0))) = false := by simpa using c3))
    (try (have c3b2 : ((decide (a0 < 0)) == (decide (a1 < 0))) = false := by simpa using c3))
    (try (have c3b3 : ¬ ((decide (a0 < 0)) = (decide (a1 < 0))) := by simpa using c3))
    clear c3
    replace H := Option.bind_eq_some_iff.mp H
    obtain ⟨⟨t183, t184⟩, A50, H⟩ := H
    replace H : (some (t183, t184)) = some (r1, r2) := H
    have A5 := Aside0.mk A50
    clear A50
    simp only [Option.some.injEq, Prod.mk.injEq] at H
    obtain ⟨rfl, rfl⟩ := H
    go_enter Try.func17, Try.ntmps17
    go_wp2_with (first | ((with_reducible refine gate_callee (f := 33) rfl ?_); refine goesL_ (some 23) rfl rfl Try.func33 (by kernel_rfl) rfl #[.int .i64 (wrap64 (a0 - a1)), .bool ((decide ((wrap64 (a0 - a1)) < 0)) == (decide (a0 < 0)))] rfl (by (try simp only [List.map_toArray, List.map_cons, List.map_nil]); first | done | rfl | (simp only [List.length_drop, List.length_take]; rfl)) ?_; (with_reducible refine (fix_told.calls (wrap64 (a0 - a1)) ((decide ((wrap64 (a0 - a1)) < 0)) == (decide (a0 < 0))) t183 t184 _ A5.out).mono ?_); rintro e w' ⟨rfl, ⟨nd, rfl⟩⟩; refine ⟨_, rfl, ?_⟩))
    go_ret2
    exact ⟨by first | rfl | (simp; done) | (simp [*]; done), by repeat (first | exact Drawn0.refl _ | apply Drawn0.step)⟩

end Go.Proofs.Ytkebkghhncelpaa.A
