/- Lean functions that answer as the Go functions do, and the proofs that they do; no conditions. Written by this session's own driver: a scratch copy of the kit's print with the session's additions (wip/xprint). -/
import Derived.Test.YtkebkghhncelpaaAx0
import Derived.Test.YtkebkghhncelpaaAx4
import Derived.Test.YtkebkghhncelpaaAx6
namespace Go.Proofs.Ytkebkghhncelpaa.A
open Go.RowKit Go.Proofs.YtkebkghhncelpaaW.PrintWords Go.Proofs.YtkebkghhncelpaaW.PrintLast Go.Proofs.YtkebkghhncelpaaW.PrintMore
attribute [local go_sem] max2_int min2_int max_two min_two max_three min_three max_four min_four   -- for this text's walks alone
set_option linter.unusedVariables false
set_option linter.unusedSimpArgs false

/-! ### fullerlaw01_FixRoots: function 4 -/
def fullerlaw01_FixRoots.f (k : Nat) (a0 : Int) (a1 : Int) : Option (Bool) := (fullerlaw01_awake.f k).bind fun t137 => ((fix_Sqrt.f k (wrap64 (mn a0 a1))).bind fun bt138 => ((fix_Sqrt.f k (wrap64 (mx a0 a1))).bind fun bt140 => (if bt138.2 = 0 then (if bt140.2 = 0 then (if bt138.1 < 0 then (some false) else (if bt138.1 ≥ 4294967296 then (some false) else (if bt140.1 < bt138.1 then (some false) else (if t137 = true then (if (IntKind.u64.wrap ((IntKind.u64.wrap (bt138.1)) * (IntKind.u64.wrap (bt138.1)))) ≤ (IntKind.u64.wrap ((IntKind.u64.wrap (mn a0 a1)) * 4294967296)) then (if (IntKind.u64.wrap ((IntKind.u64.wrap (bt138.1)) + 1)) = 4294967296 then (some true) else (some (decide ((IntKind.u64.wrap ((IntKind.u64.wrap ((IntKind.u64.wrap (bt138.1)) + 1)) * (IntKind.u64.wrap ((IntKind.u64.wrap (bt138.1)) + 1)))) > (IntKind.u64.wrap ((IntKind.u64.wrap (mn a0 a1)) * 4294967296)))))) else (some false)) else (some false))))) else (some false)) else (some false))))
theorem fullerlaw01_FixRoots.mono : ∀ a0 a1 k, LeO (fullerlaw01_FixRoots.f k a0 a1) (fullerlaw01_FixRoots.f (k + 1) a0 a1) := by
  intro a0 a1 k
  unfold fullerlaw01_FixRoots.f
  repeat' first
      | (with_reducible exact fix_Sqrt.mono _ _)
      | (with_reducible exact fullerlaw01_awake.mono _)
      | (with_reducible exact LeO.refl _)
      | (with_reducible exact LeO.none _)
      | (with_reducible refine LeO.ite ?_ ?_)
      | (with_reducible refine LeO.bind ?_ (fun _ => ?_))
      | exact fix_Sqrt.mono _ _
      | exact fullerlaw01_awake.mono _
      | exact LeO.none _
      | refine LeO.ite ?_ ?_
      | refine LeO.bind ?_ (fun _ => ?_)
set_option maxHeartbeats 8000000 in
set_option maxRecDepth 100000 in
theorem fullerlaw01_FixRoots.calls (k : Nat) (a0 : Int) (a1 : Int) (r : Bool) (w : World) (h : fullerlaw01_FixRoots.f k a0 a1 = some r) :
    Calls Try.prog 4 #[.int .u32 a0, .int .u32 a1] w fun e w' => e = .returned (.bool r) ∧ Below w.heap.size w w' := by
  have HB := Aside0.mk (Below.refl w.heap.size w)
  have H : ((fullerlaw01_awake.f k).bind fun t137 => ((fix_Sqrt.f k (wrap64 (mn a0 a1))).bind fun bt138 => ((fix_Sqrt.f k (wrap64 (mx a0 a1))).bind fun bt140 => (if bt138.2 = 0 then (if bt140.2 = 0 then (if bt138.1 < 0 then (some false) else (if bt138.1 ≥ 4294967296 then (some false) else (if bt140.1 < bt138.1 then (some false) else (if t137 = true then (if (IntKind.u64.wrap ((IntKind.u64.wrap (bt138.1)) * (IntKind.u64.wrap (bt138.1)))) ≤ (IntKind.u64.wrap ((IntKind.u64.wrap (mn a0 a1)) * 4294967296)) then (if (IntKind.u64.wrap ((IntKind.u64.wrap (bt138.1)) + 1)) = 4294967296 then (some true) else (some (decide ((IntKind.u64.wrap ((IntKind.u64.wrap ((IntKind.u64.wrap (bt138.1)) + 1)) * (IntKind.u64.wrap ((IntKind.u64.wrap (bt138.1)) + 1)))) > (IntKind.u64.wrap ((IntKind.u64.wrap (mn a0 a1)) * 4294967296)))))) else (some false)) else (some false))))) else (some false)) else (some false))))) = some r := h
  clear h
  replace H := Option.bind_eq_some_iff.mp H
  obtain ⟨t137, A30, H⟩ := H
  replace H : ((fix_Sqrt.f k (wrap64 (mn a0 a1))).bind fun bt138 => ((fix_Sqrt.f k (wrap64 (mx a0 a1))).bind fun bt140 => (if bt138.2 = 0 then (if bt140.2 = 0 then (if bt138.1 < 0 then (some false) else (if bt138.1 ≥ 4294967296 then (some false) else (if bt140.1 < bt138.1 then (some false) else (if t137 = true then (if (IntKind.u64.wrap ((IntKind.u64.wrap (bt138.1)) * (IntKind.u64.wrap (bt138.1)))) ≤ (IntKind.u64.wrap ((IntKind.u64.wrap (mn a0 a1)) * 4294967296)) then (if (IntKind.u64.wrap ((IntKind.u64.wrap (bt138.1)) + 1)) = 4294967296 then (some true) else (some (decide ((IntKind.u64.wrap ((IntKind.u64.wrap ((IntKind.u64.wrap (bt138.1)) + 1)) * (IntKind.u64.wrap ((IntKind.u64.wrap (bt138.1)) + 1)))) > (IntKind.u64.wrap ((IntKind.u64.wrap (mn a0 a1)) * 4294967296)))))) else (some false)) else (some false))))) else (some false)) else (some false)))) = some r := H
  have A3 := Aside0.mk A30
  clear A30
  obtain ⟨ji4, hji4⟩ : ∃ j_ : Int, (mn a0 a1) = j_ := ⟨_, rfl⟩
  replace H : ((fix_Sqrt.f k (wrap64 (ji4))).bind fun bt138 => ((fix_Sqrt.f k (wrap64 (mx a0 a1))).bind fun bt140 => (if bt138.2 = 0 then (if bt140.2 = 0 then (if bt138.1 < 0 then (some false) else (if bt138.1 ≥ 4294967296 then (some false) else (if bt140.1 < bt138.1 then (some false) else (if t137 = true then (if (IntKind.u64.wrap ((IntKind.u64.wrap (bt138.1)) * (IntKind.u64.wrap (bt138.1)))) ≤ (IntKind.u64.wrap ((IntKind.u64.wrap (ji4)) * 4294967296)) then (if (IntKind.u64.wrap ((IntKind.u64.wrap (bt138.1)) + 1)) = 4294967296 then (some true) else (some (decide ((IntKind.u64.wrap ((IntKind.u64.wrap ((IntKind.u64.wrap (bt138.1)) + 1)) * (IntKind.u64.wrap ((IntKind.u64.wrap (bt138.1)) + 1)))) > (IntKind.u64.wrap ((IntKind.u64.wrap (ji4)) * 4294967296)))))) else (some false)) else (some false))))) else (some false)) else (some false)))) = some r := by first | (rw [hji4] at H; exact H) | (simp only [hji4] at H ⊢; exact H)
  (try rw [hji4] at A3)
  have hji4_ : (if a1 < a0 then a1 else a0) = ji4 := hji4
  replace H := Option.bind_eq_some_iff.mp H
  obtain ⟨⟨t138, t139⟩, A50, H⟩ := H
  replace H : ((fix_Sqrt.f k (wrap64 (mx a0 a1))).bind fun bt140 => (if t139 = 0 then (if bt140.2 = 0 then (if t138 < 0 then (some false) else (if t138 ≥ 4294967296 then (some false) else (if bt140.1 < t138 then (some false) else (if t137 = true then (if (IntKind.u64.wrap ((IntKind.u64.wrap (t138)) * (IntKind.u64.wrap (t138)))) ≤ (IntKind.u64.wrap ((IntKind.u64.wrap (ji4)) * 4294967296)) then (if (IntKind.u64.wrap ((IntKind.u64.wrap (t138)) + 1)) = 4294967296 then (some true) else (some (decide ((IntKind.u64.wrap ((IntKind.u64.wrap ((IntKind.u64.wrap (t138)) + 1)) * (IntKind.u64.wrap ((IntKind.u64.wrap (t138)) + 1)))) > (IntKind.u64.wrap ((IntKind.u64.wrap (ji4)) * 4294967296)))))) else (some false)) else (some false))))) else (some false)) else (some false))) = some r := H
  have A5 := Aside0.mk A50
  clear A50
  obtain ⟨ji6, hji6⟩ : ∃ j_ : Int, (mx a0 a1) = j_ := ⟨_, rfl⟩
  replace H : ((fix_Sqrt.f k (wrap64 (ji6))).bind fun bt140 => (if t139 = 0 then (if bt140.2 = 0 then (if t138 < 0 then (some false) else (if t138 ≥ 4294967296 then (some false) else (if bt140.1 < t138 then (some false) else (if t137 = true then (if (IntKind.u64.wrap ((IntKind.u64.wrap (t138)) * (IntKind.u64.wrap (t138)))) ≤ (IntKind.u64.wrap ((IntKind.u64.wrap (ji4)) * 4294967296)) then (if (IntKind.u64.wrap ((IntKind.u64.wrap (t138)) + 1)) = 4294967296 then (some true) else (some (decide ((IntKind.u64.wrap ((IntKind.u64.wrap ((IntKind.u64.wrap (t138)) + 1)) * (IntKind.u64.wrap ((IntKind.u64.wrap (t138)) + 1)))) > (IntKind.u64.wrap ((IntKind.u64.wrap (ji4)) * 4294967296)))))) else (some false)) else (some false))))) else (some false)) else (some false))) = some r := by first | (rw [hji6] at H; exact H) | (simp only [hji6] at H ⊢; exact H)
  (try rw [hji6] at A3)
  (try rw [hji6] at A5)
  have hji6_ : (if a0 < a1 then a1 else a0) = ji6 := hji6
  replace H := Option.bind_eq_some_iff.mp H
  obtain ⟨⟨t140, t141⟩, A70, H⟩ := H
  replace H : (if t139 = 0 then (if t141 = 0 then (if t138 < 0 then (some false) else (if t138 ≥ 4294967296 then (some false) else (if t140 < t138 then (some false) else (if t137 = true then (if (IntKind.u64.wrap ((IntKind.u64.wrap (t138)) * (IntKind.u64.wrap (t138)))) ≤ (IntKind.u64.wrap ((IntKind.u64.wrap (ji4)) * 4294967296)) then (if (IntKind.u64.wrap ((IntKind.u64.wrap (t138)) + 1)) = 4294967296 then (some true) else (some (decide ((IntKind.u64.wrap ((IntKind.u64.wrap ((IntKind.u64.wrap (t138)) + 1)) * (IntKind.u64.wrap ((IntKind.u64.wrap (t138)) + 1)))) > (IntKind.u64.wrap ((IntKind.u64.wrap (ji4)) * 4294967296)))))) else (some false)) else (some false))))) else (some false)) else (some false)) = some r := H
  have A7 := Aside0.mk A70
  clear A70
  by_cases c8 : t139 = 0
  · rw [if_pos c8] at H
    have c8b0 : (t139 == 0) = true := beq_iff_eq.mpr c8
    have c8b1 : (t139 != 0) = false := bne_eq_false_iff_eq.mpr c8
    clear c8
    by_cases c9 : t141 = 0
    · rw [if_pos c9] at H
      have c9b0 : (t141 == 0) = true := beq_iff_eq.mpr c9
      have c9b1 : (t141 != 0) = false := bne_eq_false_iff_eq.mpr c9
      clear c9
      by_cases c10 : t138 < 0
      · rw [if_pos c10] at H
        have c10b0 : decide (t138 < 0) = true := decide_eq_true c10
        clear c10
        obtain rfl := Option.some.inj H
        go_enter Try.func4, Try.ntmps4
        go_wp2_with (first | ((with_reducible refine gate_callee (f := 10) rfl ?_); refine goesL_ (some 13) rfl rfl Try.func10 (by kernel_rfl) rfl #[] rfl (by (try simp only [List.map_toArray, List.map_cons, List.map_nil]); first | done | rfl | (simp only [List.length_drop, List.length_take]; rfl)) ?_; (with_reducible refine (fullerlaw01_awake.calls k  t137 _ A3.out).mono ?_); rintro e w11 ⟨rfl, hb⟩; refine ⟨_, rfl, ?_⟩; have n0_ := Aside0.mk (below_step (bq0_ HB.out) hb); clear HB; have HB := n0_; clear n0_; (try clear hb)) | ((with_reducible refine gate_callee (f := 13) rfl ?_); refine goesL_ (some 20) rfl rfl Try.func13 (by kernel_rfl) rfl #[.int .i64 (wrap64 (ji4))] rfl (by (try simp only [List.map_toArray, List.map_cons, List.map_nil]); first | done | (simp only [hji4]; rfl) | rfl | (simp only [List.length_drop, List.length_take]; rfl)) ?_; (with_reducible refine (fix_Sqrt.calls k (wrap64 (ji4)) t138 t139 _ A5.out).mono ?_); rintro e w' ⟨rfl, ⟨nd, rfl⟩⟩; refine ⟨_, rfl, ?_⟩) | ((with_reducible refine gate_callee (f := 13) rfl ?_); refine goesL_ (some 28) rfl rfl Try.func13 (by kernel_rfl) rfl #[.int .i64 (wrap64 (ji6))] rfl (by (try simp only [List.map_toArray, List.map_cons, List.map_nil]); first | done | (simp only [hji6]; rfl) | rfl | (simp only [List.length_drop, List.length_take]; rfl)) ?_; (with_reducible refine (fix_Sqrt.calls k (wrap64 (ji6)) t140 t141 _ A7.out).mono ?_); rintro e w' ⟨rfl, ⟨nd, rfl⟩⟩; refine ⟨_, rfl, ?_⟩))
        go_ret
        exact ⟨by first | rfl | (simp [errW_none, errW_some] <;> rfl) | (simp only [← hji4, ← hji6]; first | rfl | (simp [errW_none, errW_some] <;> rfl)) | (simp [*, errW_none, errW_some] <;> rfl), by repeat (first | (with_reducible first | exact HB.out | apply below_alloc | apply pw_below_drewN | apply below_drew1) | exact HB.out)⟩
      · rw [if_neg c10] at H
        have c10b0 : decide (t138 < 0) = false := decide_eq_false c10
        clear c10
        by_cases c12 : t138 ≥ 4294967296
        · rw [if_pos c12] at H
          have c12b0 : decide (4294967296 ≤ t138) = true := decide_eq_true c12
          clear c12
          obtain rfl := Option.some.inj H
          go_enter Try.func4, Try.ntmps4
          go_wp2_with (first | ((with_reducible refine gate_callee (f := 10) rfl ?_); refine goesL_ (some 13) rfl rfl Try.func10 (by kernel_rfl) rfl #[] rfl (by (try simp only [List.map_toArray, List.map_cons, List.map_nil]); first | done | rfl | (simp only [List.length_drop, List.length_take]; rfl)) ?_; (with_reducible refine (fullerlaw01_awake.calls k  t137 _ A3.out).mono ?_); rintro e w13 ⟨rfl, hb⟩; refine ⟨_, rfl, ?_⟩; have n0_ := Aside0.mk (below_step (bq0_ HB.out) hb); clear HB; have HB := n0_; clear n0_; (try clear hb)) | ((with_reducible refine gate_callee (f := 13) rfl ?_); refine goesL_ (some 20) rfl rfl Try.func13 (by kernel_rfl) rfl #[.int .i64 (wrap64 (ji4))] rfl (by (try simp only [List.map_toArray, List.map_cons, List.map_nil]); first | done | (simp only [hji4]; rfl) | rfl | (simp only [List.length_drop, List.length_take]; rfl)) ?_; (with_reducible refine (fix_Sqrt.calls k (wrap64 (ji4)) t138 t139 _ A5.out).mono ?_); rintro e w' ⟨rfl, ⟨nd, rfl⟩⟩; refine ⟨_, rfl, ?_⟩) | ((with_reducible refine gate_callee (f := 13) rfl ?_); refine goesL_ (some 28) rfl rfl Try.func13 (by kernel_rfl) rfl #[.int .i64 (wrap64 (ji6))] rfl (by (try simp only [List.map_toArray, List.map_cons, List.map_nil]); first | done | (simp only [hji6]; rfl) | rfl | (simp only [List.length_drop, List.length_take]; rfl)) ?_; (with_reducible refine (fix_Sqrt.calls k (wrap64 (ji6)) t140 t141 _ A7.out).mono ?_); rintro e w' ⟨rfl, ⟨nd, rfl⟩⟩; refine ⟨_, rfl, ?_⟩))
          go_ret
          exact ⟨by first | rfl | (simp [errW_none, errW_some] <;> rfl) | (simp only [← hji4, ← hji6]; first | rfl | (simp [errW_none, errW_some] <;> rfl)) | (simp [*, errW_none, errW_some] <;> rfl), by repeat (first | (with_reducible first | exact HB.out | apply below_alloc | apply pw_below_drewN | apply below_drew1) | exact HB.out)⟩
        · rw [if_neg c12] at H
          have c12b0 : decide (4294967296 ≤ t138) = false := decide_eq_false c12
          clear c12
          by_cases c14 : t140 < t138
          · rw [if_pos c14] at H
            have c14b0 : decide (t140 < t138) = true := decide_eq_true c14
            clear c14
            obtain rfl := Option.some.inj H
            go_enter Try.func4, Try.ntmps4
            go_wp2_with (first | ((with_reducible refine gate_callee (f := 10) rfl ?_); refine goesL_ (some 13) rfl rfl Try.func10 (by kernel_rfl) rfl #[] rfl (by (try simp only [List.map_toArray, List.map_cons, List.map_nil]); first | done | rfl | (simp only [List.length_drop, List.length_take]; rfl)) ?_; (with_reducible refine (fullerlaw01_awake.calls k  t137 _ A3.out).mono ?_); rintro e w15 ⟨rfl, hb⟩; refine ⟨_, rfl, ?_⟩; have n0_ := Aside0.mk (below_step (bq0_ HB.out) hb); clear HB; have HB := n0_; clear n0_; (try clear hb)) | ((with_reducible refine gate_callee (f := 13) rfl ?_); refine goesL_ (some 20) rfl rfl Try.func13 (by kernel_rfl) rfl #[.int .i64 (wrap64 (ji4))] rfl (by (try simp only [List.map_toArray, List.map_cons, List.map_nil]); first | done | (simp only [hji4]; rfl) | rfl | (simp only [List.length_drop, List.length_take]; rfl)) ?_; (with_reducible refine (fix_Sqrt.calls k (wrap64 (ji4)) t138 t139 _ A5.out).mono ?_); rintro e w' ⟨rfl, ⟨nd, rfl⟩⟩; refine ⟨_, rfl, ?_⟩) | ((with_reducible refine gate_callee (f := 13) rfl ?_); refine goesL_ (some 28) rfl rfl Try.func13 (by kernel_rfl) rfl #[.int .i64 (wrap64 (ji6))] rfl (by (try simp only [List.map_toArray, List.map_cons, List.map_nil]); first | done | (simp only [hji6]; rfl) | rfl | (simp only [List.length_drop, List.length_take]; rfl)) ?_; (with_reducible refine (fix_Sqrt.calls k (wrap64 (ji6)) t140 t141 _ A7.out).mono ?_); rintro e w' ⟨rfl, ⟨nd, rfl⟩⟩; refine ⟨_, rfl, ?_⟩))
            go_ret
            exact ⟨by first | rfl | (simp [errW_none, errW_some] <;> rfl) | (simp only [← hji4, ← hji6]; first | rfl | (simp [errW_none, errW_some] <;> rfl)) | (simp [*, errW_none, errW_some] <;> rfl), by repeat (first | (with_reducible first | exact HB.out | apply below_alloc | apply pw_below_drewN | apply below_drew1) | exact HB.out)⟩
          · rw [if_neg c14] at H
            have c14b0 : decide (t140 < t138) = false := decide_eq_false c14
            clear c14
            by_cases c16 : t137 = true
            · subst c16
              have H1 : (if (IntKind.u64.wrap ((IntKind.u64.wrap (t138)) * (IntKind.u64.wrap (t138)))) ≤ (IntKind.u64.wrap ((IntKind.u64.wrap (ji4)) * 4294967296)) then (if (IntKind.u64.wrap ((IntKind.u64.wrap (t138)) + 1)) = 4294967296 then (some true) else (some (decide ((IntKind.u64.wrap ((IntKind.u64.wrap ((IntKind.u64.wrap (t138)) + 1)) * (IntKind.u64.wrap ((IntKind.u64.wrap (t138)) + 1)))) > (IntKind.u64.wrap ((IntKind.u64.wrap (ji4)) * 4294967296)))))) else (some false)) = some r := by rw [if_pos rfl] at H; exact H
              clear H
              have H := H1
              clear H1
              by_cases c17 : (IntKind.u64.wrap ((IntKind.u64.wrap (t138)) * (IntKind.u64.wrap (t138)))) ≤ (IntKind.u64.wrap ((IntKind.u64.wrap (ji4)) * 4294967296))
              · rw [if_pos c17] at H
                have c17b0 : decide ((IntKind.u64.wrap ((IntKind.u64.wrap (t138)) * (IntKind.u64.wrap (t138)))) ≤ (IntKind.u64.wrap ((IntKind.u64.wrap (ji4)) * 4294967296))) = true := decide_eq_true c17
                clear c17
                by_cases c18 : (IntKind.u64.wrap ((IntKind.u64.wrap (t138)) + 1)) = 4294967296
                · rw [if_pos c18] at H
                  have c18b0 : ((IntKind.u64.wrap ((IntKind.u64.wrap (t138)) + 1)) == 4294967296) = true := beq_iff_eq.mpr c18
                  have c18b1 : ((IntKind.u64.wrap ((IntKind.u64.wrap (t138)) + 1)) != 4294967296) = false := bne_eq_false_iff_eq.mpr c18
                  clear c18
                  obtain rfl := Option.some.inj H
                  go_enter Try.func4, Try.ntmps4
                  go_wp2_with (first | ((with_reducible refine gate_callee (f := 10) rfl ?_); refine goesL_ (some 13) rfl rfl Try.func10 (by kernel_rfl) rfl #[] rfl (by (try simp only [List.map_toArray, List.map_cons, List.map_nil]); first | done | rfl | (simp only [List.length_drop, List.length_take]; rfl)) ?_; (with_reducible refine (fullerlaw01_awake.calls k  true _ A3.out).mono ?_); rintro e w19 ⟨rfl, hb⟩; refine ⟨_, rfl, ?_⟩; have n0_ := Aside0.mk (below_step (bq0_ HB.out) hb); clear HB; have HB := n0_; clear n0_; (try clear hb)) | ((with_reducible refine gate_callee (f := 13) rfl ?_); refine goesL_ (some 20) rfl rfl Try.func13 (by kernel_rfl) rfl #[.int .i64 (wrap64 (ji4))] rfl (by (try simp only [List.map_toArray, List.map_cons, List.map_nil]); first | done | (simp only [hji4]; rfl) | rfl | (simp only [List.length_drop, List.length_take]; rfl)) ?_; (with_reducible refine (fix_Sqrt.calls k (wrap64 (ji4)) t138 t139 _ A5.out).mono ?_); rintro e w' ⟨rfl, ⟨nd, rfl⟩⟩; refine ⟨_, rfl, ?_⟩) | ((with_reducible refine gate_callee (f := 13) rfl ?_); refine goesL_ (some 28) rfl rfl Try.func13 (by kernel_rfl) rfl #[.int .i64 (wrap64 (ji6))] rfl (by (try simp only [List.map_toArray, List.map_cons, List.map_nil]); first | done | (simp only [hji6]; rfl) | rfl | (simp only [List.length_drop, List.length_take]; rfl)) ?_; (with_reducible refine (fix_Sqrt.calls k (wrap64 (ji6)) t140 t141 _ A7.out).mono ?_); rintro e w' ⟨rfl, ⟨nd, rfl⟩⟩; refine ⟨_, rfl, ?_⟩))
                  go_ret
                  exact ⟨by first | rfl | (simp [errW_none, errW_some] <;> rfl) | (simp only [← hji4, ← hji6]; first | rfl | (simp [errW_none, errW_some] <;> rfl)) | (simp [*, errW_none, errW_some] <;> rfl), by repeat (first | (with_reducible first | exact HB.out | apply below_alloc | apply pw_below_drewN | apply below_drew1) | exact HB.out)⟩
                · rw [if_neg c18] at H
                  have c18b0 : ((IntKind.u64.wrap ((IntKind.u64.wrap (t138)) + 1)) == 4294967296) = false := beq_eq_false_iff_ne.mpr c18
                  have c18b1 : ((IntKind.u64.wrap ((IntKind.u64.wrap (t138)) + 1)) != 4294967296) = true := bne_iff_ne.mpr c18
                  obtain rfl := Option.some.inj H
                  go_enter Try.func4, Try.ntmps4
                  go_wp2_with (first | ((with_reducible refine gate_callee (f := 10) rfl ?_); refine goesL_ (some 13) rfl rfl Try.func10 (by kernel_rfl) rfl #[] rfl (by (try simp only [List.map_toArray, List.map_cons, List.map_nil]); first | done | rfl | (simp only [List.length_drop, List.length_take]; rfl)) ?_; (with_reducible refine (fullerlaw01_awake.calls k  true _ A3.out).mono ?_); rintro e w20 ⟨rfl, hb⟩; refine ⟨_, rfl, ?_⟩; have n0_ := Aside0.mk (below_step (bq0_ HB.out) hb); clear HB; have HB := n0_; clear n0_; (try clear hb)) | ((with_reducible refine gate_callee (f := 13) rfl ?_); refine goesL_ (some 20) rfl rfl Try.func13 (by kernel_rfl) rfl #[.int .i64 (wrap64 (ji4))] rfl (by (try simp only [List.map_toArray, List.map_cons, List.map_nil]); first | done | (simp only [hji4]; rfl) | rfl | (simp only [List.length_drop, List.length_take]; rfl)) ?_; (with_reducible refine (fix_Sqrt.calls k (wrap64 (ji4)) t138 t139 _ A5.out).mono ?_); rintro e w' ⟨rfl, ⟨nd, rfl⟩⟩; refine ⟨_, rfl, ?_⟩) | ((with_reducible refine gate_callee (f := 13) rfl ?_); refine goesL_ (some 28) rfl rfl Try.func13 (by kernel_rfl) rfl #[.int .i64 (wrap64 (ji6))] rfl (by (try simp only [List.map_toArray, List.map_cons, List.map_nil]); first | done | (simp only [hji6]; rfl) | rfl | (simp only [List.length_drop, List.length_take]; rfl)) ?_; (with_reducible refine (fix_Sqrt.calls k (wrap64 (ji6)) t140 t141 _ A7.out).mono ?_); rintro e w' ⟨rfl, ⟨nd, rfl⟩⟩; refine ⟨_, rfl, ?_⟩))
                  go_ret
                  exact ⟨by first | rfl | (simp [errW_none, errW_some] <;> rfl) | (simp only [← hji4, ← hji6]; first | rfl | (simp [errW_none, errW_some] <;> rfl)) | (simp [*, errW_none, errW_some] <;> rfl), by repeat (first | (with_reducible first | exact HB.out | apply below_alloc | apply pw_below_drewN | apply below_drew1) | exact HB.out)⟩
              · rw [if_neg c17] at H
                have c17b0 : decide ((IntKind.u64.wrap ((IntKind.u64.wrap (t138)) * (IntKind.u64.wrap (t138)))) ≤ (IntKind.u64.wrap ((IntKind.u64.wrap (ji4)) * 4294967296))) = false := decide_eq_false c17
                clear c17
                obtain rfl := Option.some.inj H
                go_enter Try.func4, Try.ntmps4
                go_wp2_with (first | ((with_reducible refine gate_callee (f := 10) rfl ?_); refine goesL_ (some 13) rfl rfl Try.func10 (by kernel_rfl) rfl #[] rfl (by (try simp only [List.map_toArray, List.map_cons, List.map_nil]); first | done | rfl | (simp only [List.length_drop, List.length_take]; rfl)) ?_; (with_reducible refine (fullerlaw01_awake.calls k  true _ A3.out).mono ?_); rintro e w21 ⟨rfl, hb⟩; refine ⟨_, rfl, ?_⟩; have n0_ := Aside0.mk (below_step (bq0_ HB.out) hb); clear HB; have HB := n0_; clear n0_; (try clear hb)) | ((with_reducible refine gate_callee (f := 13) rfl ?_); refine goesL_ (some 20) rfl rfl Try.func13 (by kernel_rfl) rfl #[.int .i64 (wrap64 (ji4))] rfl (by (try simp only [List.map_toArray, List.map_cons, List.map_nil]); first | done | (simp only [hji4]; rfl) | rfl | (simp only [List.length_drop, List.length_take]; rfl)) ?_; (with_reducible refine (fix_Sqrt.calls k (wrap64 (ji4)) t138 t139 _ A5.out).mono ?_); rintro e w' ⟨rfl, ⟨nd, rfl⟩⟩; refine ⟨_, rfl, ?_⟩) | ((with_reducible refine gate_callee (f := 13) rfl ?_); refine goesL_ (some 28) rfl rfl Try.func13 (by kernel_rfl) rfl #[.int .i64 (wrap64 (ji6))] rfl (by (try simp only [List.map_toArray, List.map_cons, List.map_nil]); first | done | (simp only [hji6]; rfl) | rfl | (simp only [List.length_drop, List.length_take]; rfl)) ?_; (with_reducible refine (fix_Sqrt.calls k (wrap64 (ji6)) t140 t141 _ A7.out).mono ?_); rintro e w' ⟨rfl, ⟨nd, rfl⟩⟩; refine ⟨_, rfl, ?_⟩))
                go_ret
                exact ⟨by first | rfl | (simp [errW_none, errW_some] <;> rfl) | (simp only [← hji4, ← hji6]; first | rfl | (simp [errW_none, errW_some] <;> rfl)) | (simp [*, errW_none, errW_some] <;> rfl), by repeat (first | (with_reducible first | exact HB.out | apply below_alloc | apply pw_below_drewN | apply below_drew1) | exact HB.out)⟩
            · replace c16 := Bool.eq_false_iff.mpr c16
              subst c16
              have H1 : (some false) = some r := by rw [if_neg (show ¬ (false = true) by decide)] at H; exact H
              clear H
              have H := H1
              clear H1
              obtain rfl := Option.some.inj H
              go_enter Try.func4, Try.ntmps4
              go_wp2_with (first | ((with_reducible refine gate_callee (f := 10) rfl ?_); refine goesL_ (some 13) rfl rfl Try.func10 (by kernel_rfl) rfl #[] rfl (by (try simp only [List.map_toArray, List.map_cons, List.map_nil]); first | done | rfl | (simp only [List.length_drop, List.length_take]; rfl)) ?_; (with_reducible refine (fullerlaw01_awake.calls k  false _ A3.out).mono ?_); rintro e w22 ⟨rfl, hb⟩; refine ⟨_, rfl, ?_⟩; have n0_ := Aside0.mk (below_step (bq0_ HB.out) hb); clear HB; have HB := n0_; clear n0_; (try clear hb)) | ((with_reducible refine gate_callee (f := 13) rfl ?_); refine goesL_ (some 20) rfl rfl Try.func13 (by kernel_rfl) rfl #[.int .i64 (wrap64 (ji4))] rfl (by (try simp only [List.map_toArray, List.map_cons, List.map_nil]); first | done | (simp only [hji4]; rfl) | rfl | (simp only [List.length_drop, List.length_take]; rfl)) ?_; (with_reducible refine (fix_Sqrt.calls k (wrap64 (ji4)) t138 t139 _ A5.out).mono ?_); rintro e w' ⟨rfl, ⟨nd, rfl⟩⟩; refine ⟨_, rfl, ?_⟩) | ((with_reducible refine gate_callee (f := 13) rfl ?_); refine goesL_ (some 28) rfl rfl Try.func13 (by kernel_rfl) rfl #[.int .i64 (wrap64 (ji6))] rfl (by (try simp only [List.map_toArray, List.map_cons, List.map_nil]); first | done | (simp only [hji6]; rfl) | rfl | (simp only [List.length_drop, List.length_take]; rfl)) ?_; (with_reducible refine (fix_Sqrt.calls k (wrap64 (ji6)) t140 t141 _ A7.out).mono ?_); rintro e w' ⟨rfl, ⟨nd, rfl⟩⟩; refine ⟨_, rfl, ?_⟩))
              go_ret
              exact ⟨by first | rfl | (simp [errW_none, errW_some] <;> rfl) | (simp only [← hji4, ← hji6]; first | rfl | (simp [errW_none, errW_some] <;> rfl)) | (simp [*, errW_none, errW_some] <;> rfl), by repeat (first | (with_reducible first | exact HB.out | apply below_alloc | apply pw_below_drewN | apply below_drew1) | exact HB.out)⟩
    · rw [if_neg c9] at H
      have c9b0 : (t141 == 0) = false := beq_eq_false_iff_ne.mpr c9
      have c9b1 : (t141 != 0) = true := bne_iff_ne.mpr c9
      obtain rfl := Option.some.inj H
      go_enter Try.func4, Try.ntmps4
      go_wp2_with (first | ((with_reducible refine gate_callee (f := 10) rfl ?_); refine goesL_ (some 13) rfl rfl Try.func10 (by kernel_rfl) rfl #[] rfl (by (try simp only [List.map_toArray, List.map_cons, List.map_nil]); first | done | rfl | (simp only [List.length_drop, List.length_take]; rfl)) ?_; (with_reducible refine (fullerlaw01_awake.calls k  t137 _ A3.out).mono ?_); rintro e w23 ⟨rfl, hb⟩; refine ⟨_, rfl, ?_⟩; have n0_ := Aside0.mk (below_step (bq0_ HB.out) hb); clear HB; have HB := n0_; clear n0_; (try clear hb)) | ((with_reducible refine gate_callee (f := 13) rfl ?_); refine goesL_ (some 20) rfl rfl Try.func13 (by kernel_rfl) rfl #[.int .i64 (wrap64 (ji4))] rfl (by (try simp only [List.map_toArray, List.map_cons, List.map_nil]); first | done | (simp only [hji4]; rfl) | rfl | (simp only [List.length_drop, List.length_take]; rfl)) ?_; (with_reducible refine (fix_Sqrt.calls k (wrap64 (ji4)) t138 t139 _ A5.out).mono ?_); rintro e w' ⟨rfl, ⟨nd, rfl⟩⟩; refine ⟨_, rfl, ?_⟩) | ((with_reducible refine gate_callee (f := 13) rfl ?_); refine goesL_ (some 28) rfl rfl Try.func13 (by kernel_rfl) rfl #[.int .i64 (wrap64 (ji6))] rfl (by (try simp only [List.map_toArray, List.map_cons, List.map_nil]); first | done | (simp only [hji6]; rfl) | rfl | (simp only [List.length_drop, List.length_take]; rfl)) ?_; (with_reducible refine (fix_Sqrt.calls k (wrap64 (ji6)) t140 t141 _ A7.out).mono ?_); rintro e w' ⟨rfl, ⟨nd, rfl⟩⟩; refine ⟨_, rfl, ?_⟩))
      go_ret
      exact ⟨by first | rfl | (simp [errW_none, errW_some] <;> rfl) | (simp only [← hji4, ← hji6]; first | rfl | (simp [errW_none, errW_some] <;> rfl)) | (simp [*, errW_none, errW_some] <;> rfl), by repeat (first | (with_reducible first | exact HB.out | apply below_alloc | apply pw_below_drewN | apply below_drew1) | exact HB.out)⟩
  · rw [if_neg c8] at H
    have c8b0 : (t139 == 0) = false := beq_eq_false_iff_ne.mpr c8
    have c8b1 : (t139 != 0) = true := bne_iff_ne.mpr c8
    obtain rfl := Option.some.inj H
    go_enter Try.func4, Try.ntmps4
    go_wp2_with (first | ((with_reducible refine gate_callee (f := 10) rfl ?_); refine goesL_ (some 13) rfl rfl Try.func10 (by kernel_rfl) rfl #[] rfl (by (try simp only [List.map_toArray, List.map_cons, List.map_nil]); first | done | rfl | (simp only [List.length_drop, List.length_take]; rfl)) ?_; (with_reducible refine (fullerlaw01_awake.calls k  t137 _ A3.out).mono ?_); rintro e w24 ⟨rfl, hb⟩; refine ⟨_, rfl, ?_⟩; have n0_ := Aside0.mk (below_step (bq0_ HB.out) hb); clear HB; have HB := n0_; clear n0_; (try clear hb)) | ((with_reducible refine gate_callee (f := 13) rfl ?_); refine goesL_ (some 20) rfl rfl Try.func13 (by kernel_rfl) rfl #[.int .i64 (wrap64 (ji4))] rfl (by (try simp only [List.map_toArray, List.map_cons, List.map_nil]); first | done | (simp only [hji4]; rfl) | rfl | (simp only [List.length_drop, List.length_take]; rfl)) ?_; (with_reducible refine (fix_Sqrt.calls k (wrap64 (ji4)) t138 t139 _ A5.out).mono ?_); rintro e w' ⟨rfl, ⟨nd, rfl⟩⟩; refine ⟨_, rfl, ?_⟩) | ((with_reducible refine gate_callee (f := 13) rfl ?_); refine goesL_ (some 28) rfl rfl Try.func13 (by kernel_rfl) rfl #[.int .i64 (wrap64 (ji6))] rfl (by (try simp only [List.map_toArray, List.map_cons, List.map_nil]); first | done | (simp only [hji6]; rfl) | rfl | (simp only [List.length_drop, List.length_take]; rfl)) ?_; (with_reducible refine (fix_Sqrt.calls k (wrap64 (ji6)) t140 t141 _ A7.out).mono ?_); rintro e w' ⟨rfl, ⟨nd, rfl⟩⟩; refine ⟨_, rfl, ?_⟩))
    go_ret
    exact ⟨by first | rfl | (simp [errW_none, errW_some] <;> rfl) | (simp only [← hji4, ← hji6]; first | rfl | (simp [errW_none, errW_some] <;> rfl)) | (simp [*, errW_none, errW_some] <;> rfl), by repeat (first | (with_reducible first | exact HB.out | apply below_alloc | apply pw_below_drewN | apply below_drew1) | exact HB.out)⟩

/-- THE ONE PURE STATEMENT of fullerlaw01_FixRoots: yours. -/
def fullerlaw01_FixRoots.Pure : Prop := ∀ (a0 : Int) (a1 : Int), (Lit.int .u32 a0).wf = true → (Lit.int .u32 a1).wf = true → ∃ k, fullerlaw01_FixRoots.f k a0 a1 = some true
theorem fullerlaw01_FixRoots.walk (P : fullerlaw01_FixRoots.Pure) (a0 : Int) (a1 : Int) (w : World) (w0 : (Lit.int .u32 a0).wf = true) (w1 : (Lit.int .u32 a1).wf = true) :
    Calls Try.prog 4 #[.int .u32 a0, .int .u32 a1] w fun e w' => e = .returned (.bool true) ∧ Below w.heap.size w w' := by
  obtain ⟨k, h⟩ := P a0 a1 w0 w1
  refine (fullerlaw01_FixRoots.calls k a0 a1 true w h).mono ?_
  rintro e w' ⟨rfl, hd⟩
  exact ⟨rfl, hd⟩

-- NOT PRINTED: function 5 (fullerlaw01_FixOrder)

end Go.Proofs.Ytkebkghhncelpaa.A
