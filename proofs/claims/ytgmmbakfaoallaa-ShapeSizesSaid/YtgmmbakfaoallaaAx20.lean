/- Lean functions that answer as the Go functions do, and the proofs that they do; no conditions. Written by this session's own driver: a scratch copy of the kit's print with the session's additions (wip/xprint). -/
import Derived.Test.YtgmmbakfaoallaaAx0
import Derived.Test.YtgmmbakfaoallaaAx1
import Derived.Test.YtgmmbakfaoallaaAx3
import Derived.Test.YtgmmbakfaoallaaAx9
namespace Go.Proofs.Ytgmmbakfaoallaa.A
open Go.RowKit Go.Proofs.YtgmmbakfaoallaaW.PrintWords Go.Proofs.YtgmmbakfaoallaaW.PrintLast Go.Proofs.YtgmmbakfaoallaaW.PrintMore
attribute [local go_sem] max2_int min2_int max_two min_two max_three min_three max_four min_four   -- for this text's walks alone
set_option linter.unusedVariables false
set_option linter.unusedSimpArgs false

/-! ### fullerlaw02_ShapeSizes: function 7 -/
def fullerlaw02_ShapeSizes.j0 : Nat → List Int → Int → Bool → List Int → List Int → Int → Bool → Option (Bool)
  | 0, _, _, _, _, _, _, _ => none
  | k + 1, x0, x1, x5, x6, x7, x8, x9 => if x5 = true then (if x8 ≥ 1 then (if x8 ≤ 64 then ((shape_Check.f k x6).bind fun t379 => (if (t379 == (decide ((x0.length : Int) < 3))) = true then (if (x0.length : Int) = 3 then ((shape_Check.f k x7).bind fun t380 => (if (t380 == x9) = true then (if x9 = true then ((shape_Size.f k x7).bind fun t381 => (some (t381 == (wrap64 (x8 * x1))))) else (some true)) else (some false))) else ((shape_Size.f k x6).bind fun t382 => (if t382 = x8 then ((shape_Check.f k x7).bind fun t383 => (if (t383 == x9) = true then (if x9 = true then ((shape_Size.f k x7).bind fun t384 => (some (t384 == (wrap64 (x8 * x1))))) else (some true)) else (some false))) else (some false)))) else (some false))) else (some false)) else (some false)) else (some false)
def fullerlaw02_ShapeSizes.f (k : Nat) (l0 : List Int) (a1 : Int) : Option (Bool) := (fullerlaw02_awake.f k).bind fun t359 => (if (l0.length : Int) > 100 then (some t359) else ((some (([1] : List Int) : List Int)).bind fun y360 => (if y360.length + l0.length < 17592186044416 then ((some (y360 ++ l0 : List Int)).bind fun y363 => ((some (([] : List Int) : List Int)).bind fun y366 => (if y366.length + l0.length < 17592186044416 then ((some (y366 ++ l0 : List Int)).bind fun y369 => (if y369.length < 17592186044416 then ((some (y369 ++ [a1] : List Int)).bind fun y372 => ((shape_Check.f k l0).bind fun t375 => (if t375 = true then ((shape_Size.f k l0).bind fun t378 => (if (l0.length : Int) < 3 then (if a1 ≥ 1 then (if a1 ≤ 16 then (fullerlaw02_ShapeSizes.j0 k l0 a1 t359 y363 y372 t378 (decide ((wrap64 (t378 * a1)) ≤ 64))) else (fullerlaw02_ShapeSizes.j0 k l0 a1 t359 y363 y372 t378 false)) else (fullerlaw02_ShapeSizes.j0 k l0 a1 t359 y363 y372 t378 false)) else (fullerlaw02_ShapeSizes.j0 k l0 a1 t359 y363 y372 t378 false))) else (if t359 = true then ((shape_Size.f k l0).bind fun t376 => (if t376 = 0 then ((shape_Check.f k y372).bind fun t377 => (some (!t377))) else (some false))) else (some false))))) else (none))) else (none)))) else (none))))
theorem fullerlaw02_ShapeSizes.mono_l : ∀ k, (∀ y0 y1 y2 y3 y4 y5 y6, LeO (fullerlaw02_ShapeSizes.j0 k y0 y1 y2 y3 y4 y5 y6) (fullerlaw02_ShapeSizes.j0 (k + 1) y0 y1 y2 y3 y4 y5 y6))
  | 0 => fun _ _ _ _ _ _ _ r h => by simp [fullerlaw02_ShapeSizes.j0] at h
  | k + 1 => by
    have ih0 := fullerlaw02_ShapeSizes.mono_l k
    · intro y0 y1 y2 y3 y4 y5 y6
      unfold fullerlaw02_ShapeSizes.j0
      repeat' first
      | (with_reducible exact ih0 _ _ _ _ _ _ _)
      | (with_reducible exact fullerlaw02_awake.mono _)
      | (with_reducible exact shape_Check.mono _ _)
      | (with_reducible exact shape_Size.mono _ _)
      | (with_reducible exact LeO.refl _)
      | (with_reducible exact LeO.none _)
      | (with_reducible refine LeO.ite ?_ ?_)
      | (with_reducible refine LeO.bind ?_ (fun _ => ?_))
      | exact ih0 _ _ _ _ _ _ _
      | exact fullerlaw02_awake.mono _
      | exact shape_Check.mono _ _
      | exact shape_Size.mono _ _
      | exact LeO.none _
      | refine LeO.ite ?_ ?_
      | refine LeO.bind ?_ (fun _ => ?_)
theorem fullerlaw02_ShapeSizes.mono : ∀ a0 a1 k, LeO (fullerlaw02_ShapeSizes.f k a0 a1) (fullerlaw02_ShapeSizes.f (k + 1) a0 a1) := by
  intro a0 a1 k
  have ih0 := fullerlaw02_ShapeSizes.mono_l k
  unfold fullerlaw02_ShapeSizes.f
  repeat' first
      | (with_reducible exact ih0 _ _ _ _ _ _ _)
      | (with_reducible exact fullerlaw02_awake.mono _)
      | (with_reducible exact shape_Check.mono _ _)
      | (with_reducible exact shape_Size.mono _ _)
      | (with_reducible exact LeO.refl _)
      | (with_reducible exact LeO.none _)
      | (with_reducible refine LeO.ite ?_ ?_)
      | (with_reducible refine LeO.bind ?_ (fun _ => ?_))
      | exact ih0 _ _ _ _ _ _ _
      | exact fullerlaw02_awake.mono _
      | exact shape_Check.mono _ _
      | exact shape_Size.mono _ _
      | exact LeO.none _
      | refine LeO.ite ?_ ?_
      | refine LeO.bind ?_ (fun _ => ?_)
set_option maxHeartbeats 8000000 in
set_option maxRecDepth 100000 in
theorem fullerlaw02_ShapeSizes.calls (k : Nat) (A0 : Option Addr) (c0 : Nat) (l0 : List Int) (a1 : Int) (r : Bool) (w : World) (hr0 : Kd.C (Kd.int .i64) w A0 l0.length l0) (hc0 : l0.length ≤ c0) (h : fullerlaw02_ShapeSizes.f k l0 a1 = some r) :
    Calls Try.prog 7 #[.slice A0 l0.length c0, .int .i64 a1] w fun e w' => e = .returned (.bool r) ∧ Below w.heap.size w w' := by
  have HR0 := Aside0.mk hr0
  have HC0 := Aside0.mk hc0
  clear hr0 hc0
  have HB := Aside0.mk (Below.refl w.heap.size w)
  have H : ((fullerlaw02_awake.f k).bind fun t359 => (if (l0.length : Int) > 100 then (some t359) else ((some (([1] : List Int) : List Int)).bind fun y360 => (if y360.length + l0.length < 17592186044416 then ((some (y360 ++ l0 : List Int)).bind fun y363 => ((some (([] : List Int) : List Int)).bind fun y366 => (if y366.length + l0.length < 17592186044416 then ((some (y366 ++ l0 : List Int)).bind fun y369 => (if y369.length < 17592186044416 then ((some (y369 ++ [a1] : List Int)).bind fun y372 => ((shape_Check.f k l0).bind fun t375 => (if t375 = true then ((shape_Size.f k l0).bind fun t378 => (if (l0.length : Int) < 3 then (if a1 ≥ 1 then (if a1 ≤ 16 then (fullerlaw02_ShapeSizes.j0 k l0 a1 t359 y363 y372 t378 (decide ((wrap64 (t378 * a1)) ≤ 64))) else (fullerlaw02_ShapeSizes.j0 k l0 a1 t359 y363 y372 t378 false)) else (fullerlaw02_ShapeSizes.j0 k l0 a1 t359 y363 y372 t378 false)) else (fullerlaw02_ShapeSizes.j0 k l0 a1 t359 y363 y372 t378 false))) else (if t359 = true then ((shape_Size.f k l0).bind fun t376 => (if t376 = 0 then ((shape_Check.f k y372).bind fun t377 => (some (!t377))) else (some false))) else (some false))))) else (none))) else (none)))) else (none))))) = some r := h
  clear h
  replace H := Option.bind_eq_some_iff.mp H
  obtain ⟨t359, A30, H⟩ := H
  replace H : (if (l0.length : Int) > 100 then (some t359) else ((some (([1] : List Int) : List Int)).bind fun y360 => (if y360.length + l0.length < 17592186044416 then ((some (y360 ++ l0 : List Int)).bind fun y363 => ((some (([] : List Int) : List Int)).bind fun y366 => (if y366.length + l0.length < 17592186044416 then ((some (y366 ++ l0 : List Int)).bind fun y369 => (if y369.length < 17592186044416 then ((some (y369 ++ [a1] : List Int)).bind fun y372 => ((shape_Check.f k l0).bind fun t375 => (if t375 = true then ((shape_Size.f k l0).bind fun t378 => (if (l0.length : Int) < 3 then (if a1 ≥ 1 then (if a1 ≤ 16 then (fullerlaw02_ShapeSizes.j0 k l0 a1 t359 y363 y372 t378 (decide ((wrap64 (t378 * a1)) ≤ 64))) else (fullerlaw02_ShapeSizes.j0 k l0 a1 t359 y363 y372 t378 false)) else (fullerlaw02_ShapeSizes.j0 k l0 a1 t359 y363 y372 t378 false)) else (fullerlaw02_ShapeSizes.j0 k l0 a1 t359 y363 y372 t378 false))) else (if t359 = true then ((shape_Size.f k l0).bind fun t376 => (if t376 = 0 then ((shape_Check.f k y372).bind fun t377 => (some (!t377))) else (some false))) else (some false))))) else (none))) else (none)))) else (none)))) = some r := H
  have A3 := Aside0.mk A30
  clear A30
  by_cases c4 : (l0.length : Int) > 100
  · rw [if_pos c4] at H
    have c4b0 : decide (100 < (l0.length : Int)) = true := decide_eq_true c4
    have c4b1 : decide (100 < l0.length) = true := decide_eq_true (by omega)
    clear c4
    obtain rfl := Option.some.inj H
    go_enter Try.func7, Try.ntmps7
    go_wp2_with (first | ((with_reducible refine gate_callee (f := 10) rfl ?_); refine goesL_ (some 10) rfl rfl Try.func10 (by kernel_rfl) rfl #[] rfl (by (try simp only [List.map_toArray, List.map_cons, List.map_nil]); first | done | rfl | (simp only [List.length_drop, List.length_take]; rfl)) ?_; (with_reducible refine (fullerlaw02_awake.calls k  t359 _ A3.out).mono ?_); rintro e w5 ⟨rfl, hb⟩; refine ⟨_, rfl, ?_⟩; have n0_ := Aside0.mk (below_step (by repeat (first | (with_reducible first | exact HB.out | apply below_alloc | apply pw_below_drewN | apply below_drew1) | exact HB.out)) hb); clear HB; have HB := n0_; clear n0_; (try clear hb); (try clear hb2); (try clear hk); (try clear hi)))
    go_ret
    exact ⟨by first | rfl | (simp [errW_none, errW_some] <;> rfl) | (simp [*, errW_none, errW_some] <;> rfl), by repeat (first | (with_reducible first | exact HB.out | apply below_alloc | apply pw_below_drewN | apply below_drew1) | exact HB.out)⟩
  · rw [if_neg c4] at H
    have c4b0 : decide (100 < (l0.length : Int)) = false := decide_eq_false c4
    have c4b1 : decide (100 < l0.length) = false := decide_eq_false (by omega)
    clear c4
    obtain ⟨y360, hy360⟩ : ∃ y_ : List Int, y_ = (([1] : List Int)) := ⟨_, rfl⟩
    replace H : (if y360.length + l0.length < 17592186044416 then ((some (y360 ++ l0 : List Int)).bind fun y363 => ((some (([] : List Int) : List Int)).bind fun y366 => (if y366.length + l0.length < 17592186044416 then ((some (y366 ++ l0 : List Int)).bind fun y369 => (if y369.length < 17592186044416 then ((some (y369 ++ [a1] : List Int)).bind fun y372 => ((shape_Check.f k l0).bind fun t375 => (if t375 = true then ((shape_Size.f k l0).bind fun t378 => (if (l0.length : Int) < 3 then (if a1 ≥ 1 then (if a1 ≤ 16 then (fullerlaw02_ShapeSizes.j0 k l0 a1 t359 y363 y372 t378 (decide ((wrap64 (t378 * a1)) ≤ 64))) else (fullerlaw02_ShapeSizes.j0 k l0 a1 t359 y363 y372 t378 false)) else (fullerlaw02_ShapeSizes.j0 k l0 a1 t359 y363 y372 t378 false)) else (fullerlaw02_ShapeSizes.j0 k l0 a1 t359 y363 y372 t378 false))) else (if t359 = true then ((shape_Size.f k l0).bind fun t376 => (if t376 = 0 then ((shape_Check.f k y372).bind fun t377 => (some (!t377))) else (some false))) else (some false))))) else (none))) else (none)))) else (none)) = some r := by first | (rw [hy360]; with_reducible exact H) | (have H2_ := (Option.bind_some _ _).symm.trans H; rw [hy360]; with_reducible exact H2_) | (have H2_ := (Option.bind_some _ _).symm.trans H; with_reducible exact H2_) | with_reducible exact H | (rw [hy360]; exact H) | exact H
    have Ny360 := Aside0.mk hy360
    clear hy360
    by_cases c6 : y360.length + l0.length < 17592186044416
    · rw [if_pos c6] at H
      have LMc6 := Aside0.mk c6
      clear c6
      obtain ⟨y363, hy363⟩ : ∃ y_ : List Int, y_ = (y360 ++ l0) := ⟨_, rfl⟩
      replace H : ((some (([] : List Int) : List Int)).bind fun y366 => (if y366.length + l0.length < 17592186044416 then ((some (y366 ++ l0 : List Int)).bind fun y369 => (if y369.length < 17592186044416 then ((some (y369 ++ [a1] : List Int)).bind fun y372 => ((shape_Check.f k l0).bind fun t375 => (if t375 = true then ((shape_Size.f k l0).bind fun t378 => (if (l0.length : Int) < 3 then (if a1 ≥ 1 then (if a1 ≤ 16 then (fullerlaw02_ShapeSizes.j0 k l0 a1 t359 y363 y372 t378 (decide ((wrap64 (t378 * a1)) ≤ 64))) else (fullerlaw02_ShapeSizes.j0 k l0 a1 t359 y363 y372 t378 false)) else (fullerlaw02_ShapeSizes.j0 k l0 a1 t359 y363 y372 t378 false)) else (fullerlaw02_ShapeSizes.j0 k l0 a1 t359 y363 y372 t378 false))) else (if t359 = true then ((shape_Size.f k l0).bind fun t376 => (if t376 = 0 then ((shape_Check.f k y372).bind fun t377 => (some (!t377))) else (some false))) else (some false))))) else (none))) else (none))) = some r := by first | (rw [hy363]; with_reducible exact H) | (have H2_ := (Option.bind_some _ _).symm.trans H; rw [hy363]; with_reducible exact H2_) | (have H2_ := (Option.bind_some _ _).symm.trans H; with_reducible exact H2_) | with_reducible exact H | (rw [hy363]; exact H) | exact H
      have Ny363 := Aside0.mk hy363
      clear hy363
      obtain ⟨y366, hy366⟩ : ∃ y_ : List Int, y_ = (([] : List Int)) := ⟨_, rfl⟩
      replace H : (if y366.length + l0.length < 17592186044416 then ((some (y366 ++ l0 : List Int)).bind fun y369 => (if y369.length < 17592186044416 then ((some (y369 ++ [a1] : List Int)).bind fun y372 => ((shape_Check.f k l0).bind fun t375 => (if t375 = true then ((shape_Size.f k l0).bind fun t378 => (if (l0.length : Int) < 3 then (if a1 ≥ 1 then (if a1 ≤ 16 then (fullerlaw02_ShapeSizes.j0 k l0 a1 t359 y363 y372 t378 (decide ((wrap64 (t378 * a1)) ≤ 64))) else (fullerlaw02_ShapeSizes.j0 k l0 a1 t359 y363 y372 t378 false)) else (fullerlaw02_ShapeSizes.j0 k l0 a1 t359 y363 y372 t378 false)) else (fullerlaw02_ShapeSizes.j0 k l0 a1 t359 y363 y372 t378 false))) else (if t359 = true then ((shape_Size.f k l0).bind fun t376 => (if t376 = 0 then ((shape_Check.f k y372).bind fun t377 => (some (!t377))) else (some false))) else (some false))))) else (none))) else (none)) = some r := by first | (rw [hy366]; with_reducible exact H) | (have H2_ := (Option.bind_some _ _).symm.trans H; rw [hy366]; with_reducible exact H2_) | (have H2_ := (Option.bind_some _ _).symm.trans H; with_reducible exact H2_) | with_reducible exact H | (rw [hy366]; exact H) | exact H
      have Ny366 := Aside0.mk hy366
      clear hy366
      by_cases c7 : y366.length + l0.length < 17592186044416
      · rw [if_pos c7] at H
        have LMc7 := Aside0.mk c7
        clear c7
        obtain ⟨y369, hy369⟩ : ∃ y_ : List Int, y_ = (y366 ++ l0) := ⟨_, rfl⟩
        replace H : (if y369.length < 17592186044416 then ((some (y369 ++ [a1] : List Int)).bind fun y372 => ((shape_Check.f k l0).bind fun t375 => (if t375 = true then ((shape_Size.f k l0).bind fun t378 => (if (l0.length : Int) < 3 then (if a1 ≥ 1 then (if a1 ≤ 16 then (fullerlaw02_ShapeSizes.j0 k l0 a1 t359 y363 y372 t378 (decide ((wrap64 (t378 * a1)) ≤ 64))) else (fullerlaw02_ShapeSizes.j0 k l0 a1 t359 y363 y372 t378 false)) else (fullerlaw02_ShapeSizes.j0 k l0 a1 t359 y363 y372 t378 false)) else (fullerlaw02_ShapeSizes.j0 k l0 a1 t359 y363 y372 t378 false))) else (if t359 = true then ((shape_Size.f k l0).bind fun t376 => (if t376 = 0 then ((shape_Check.f k y372).bind fun t377 => (some (!t377))) else (some false))) else (some false))))) else (none)) = some r := by first | (rw [hy369]; with_reducible exact H) | (have H2_ := (Option.bind_some _ _).symm.trans H; rw [hy369]; with_reducible exact H2_) | (have H2_ := (Option.bind_some _ _).symm.trans H; with_reducible exact H2_) | with_reducible exact H | (rw [hy369]; exact H) | exact H
        have Ny369 := Aside0.mk hy369
        clear hy369
        by_cases c8 : y369.length < 17592186044416
        · rw [if_pos c8] at H
          have LMc8 := Aside0.mk c8
          clear c8
          obtain ⟨y372, hy372⟩ : ∃ y_ : List Int, y_ = (y369 ++ [a1]) := ⟨_, rfl⟩
          replace H : ((shape_Check.f k l0).bind fun t375 => (if t375 = true then ((shape_Size.f k l0).bind fun t378 => (if (l0.length : Int) < 3 then (if a1 ≥ 1 then (if a1 ≤ 16 then (fullerlaw02_ShapeSizes.j0 k l0 a1 t359 y363 y372 t378 (decide ((wrap64 (t378 * a1)) ≤ 64))) else (fullerlaw02_ShapeSizes.j0 k l0 a1 t359 y363 y372 t378 false)) else (fullerlaw02_ShapeSizes.j0 k l0 a1 t359 y363 y372 t378 false)) else (fullerlaw02_ShapeSizes.j0 k l0 a1 t359 y363 y372 t378 false))) else (if t359 = true then ((shape_Size.f k l0).bind fun t376 => (if t376 = 0 then ((shape_Check.f k y372).bind fun t377 => (some (!t377))) else (some false))) else (some false)))) = some r := by first | (rw [hy372]; with_reducible exact H) | (have H2_ := (Option.bind_some _ _).symm.trans H; rw [hy372]; with_reducible exact H2_) | (have H2_ := (Option.bind_some _ _).symm.trans H; with_reducible exact H2_) | with_reducible exact H | (rw [hy372]; exact H) | exact H
          have Ny372 := Aside0.mk hy372
          clear hy372
          replace H := Option.bind_eq_some_iff.mp H
          obtain ⟨t375, A90, H⟩ := H
          replace H : (if t375 = true then ((shape_Size.f k l0).bind fun t378 => (if (l0.length : Int) < 3 then (if a1 ≥ 1 then (if a1 ≤ 16 then (fullerlaw02_ShapeSizes.j0 k l0 a1 t359 y363 y372 t378 (decide ((wrap64 (t378 * a1)) ≤ 64))) else (fullerlaw02_ShapeSizes.j0 k l0 a1 t359 y363 y372 t378 false)) else (fullerlaw02_ShapeSizes.j0 k l0 a1 t359 y363 y372 t378 false)) else (fullerlaw02_ShapeSizes.j0 k l0 a1 t359 y363 y372 t378 false))) else (if t359 = true then ((shape_Size.f k l0).bind fun t376 => (if t376 = 0 then ((shape_Check.f k y372).bind fun t377 => (some (!t377))) else (some false))) else (some false))) = some r := H
          have A9 := Aside0.mk A90
          clear A90
          by_cases c10 : t375 = true
          · subst c10
            have H1 : ((shape_Size.f k l0).bind fun t378 => (if (l0.length : Int) < 3 then (if a1 ≥ 1 then (if a1 ≤ 16 then (fullerlaw02_ShapeSizes.j0 k l0 a1 t359 y363 y372 t378 (decide ((wrap64 (t378 * a1)) ≤ 64))) else (fullerlaw02_ShapeSizes.j0 k l0 a1 t359 y363 y372 t378 false)) else (fullerlaw02_ShapeSizes.j0 k l0 a1 t359 y363 y372 t378 false)) else (fullerlaw02_ShapeSizes.j0 k l0 a1 t359 y363 y372 t378 false))) = some r := by rw [if_pos rfl] at H; exact H
            clear H
            have H := H1
            clear H1
            replace H := Option.bind_eq_some_iff.mp H
            obtain ⟨t378, A110, H⟩ := H
            replace H : (if (l0.length : Int) < 3 then (if a1 ≥ 1 then (if a1 ≤ 16 then (fullerlaw02_ShapeSizes.j0 k l0 a1 t359 y363 y372 t378 (decide ((wrap64 (t378 * a1)) ≤ 64))) else (fullerlaw02_ShapeSizes.j0 k l0 a1 t359 y363 y372 t378 false)) else (fullerlaw02_ShapeSizes.j0 k l0 a1 t359 y363 y372 t378 false)) else (fullerlaw02_ShapeSizes.j0 k l0 a1 t359 y363 y372 t378 false)) = some r := H
            have A11 := Aside0.mk A110
            clear A110
            have HC12 := Aside0.mk H
            clear H
            go_enter Try.func7, Try.ntmps7
            go_upto_region 9 with (first | ((with_reducible refine gate_callee (f := 10) rfl ?_); refine goesL_ (some 10) rfl rfl Try.func10 (by kernel_rfl) rfl #[] rfl (by (try simp only [List.map_toArray, List.map_cons, List.map_nil]); first | done | rfl | (simp only [List.length_drop, List.length_take]; rfl)) ?_; (with_reducible refine (fullerlaw02_awake.calls k  t359 _ A3.out).mono ?_); rintro e w13 ⟨rfl, hb⟩; refine ⟨_, rfl, ?_⟩; have n0_ := Aside0.mk (below_step (by repeat (first | (with_reducible first | exact HB.out | apply below_alloc | apply pw_below_drewN | apply below_drew1) | exact HB.out)) hb); clear HB; have HB := n0_; clear n0_; (try clear hb); (try clear hb2); (try clear hk); (try clear hi)) | ((with_reducible refine gate_dst (N := 15) rfl ?_); (try (refine gate_guard (by rfl) ?_; dsimp only)); refine Kd.R_lit (Kd.int .i64) _ 3 ?hg (N := 15) ?hd (xs := ([1] : List Int)) (inner := [.int .i64 1]) (ok := fun _ => True) (okp := fun _ => True) ?hr ?hp (fun _ hk => hk) trivial (Below.refl _ _) (Nat.le_refl _) (by simp) ?_; (case hd => rfl); (case hg => rfl); (case hr => first | (go_simp; done) | (go_simp; rfl)); (case hp => exact (Reps.one (show Kd.M (Kd.int .i64) _ _ _ 1 [.int .i64 1] from rfl) (Reps.none _ _))); intro v361 w14 ho15 hb hg_ hnew_; clear hg_ hnew_; (first | rw [← Ny360.out] at ho15 | (simp only [Int.reduceToNat] at ho15; rw [← Ny360.out] at ho15)); have n0_ := Aside0.mk (Kd.R_lower ho15 (below_size (by repeat (first | (with_reducible first | exact HB.out | apply below_alloc | apply pw_below_drewN | apply below_drew1) | exact HB.out)))); have n1_ := Aside0.mk (below_step (by repeat (first | (with_reducible first | exact HB.out | apply below_alloc | apply pw_below_drewN | apply below_drew1) | exact HB.out)) hb); clear HB; have HO362 := n0_; have HB := n1_; clear n0_ n1_; clear hb ho15) | ((with_reducible refine gate_builtin (b := .append) (xs := #[.tmp 15, .tmp 16]) rfl ?_); (try (refine gate_guard (by rfl) ?_; dsimp only)); at_builtin; refine Kd.R_append_rows (Kd.int .i64) (w0 := w) w.heap.size rfl (.tmp 15) (.tmp 16) 22 3 (.int .i64 0) 8 rfl Try.underlying22 info3 rfl (by decide) (by omega) v361 y360 l0 _ _ _ (fun _ => True) (fun _ => False) rfl rfl ?aO ?aR (fun _ _ h => h) (fun _ h => h.elim) ?aF ?aB ?aS ?aL ?_; (case aR => repeat (first | exact (Kd.C_below HR0.out HB.out) | (with_reducible refine Kd.C_alloc ?_ _) | (with_reducible refine Kd.C_drewN ?_ _) | (with_reducible refine Kd.C_drew ?_))); (case aB => exact (by repeat (first | (with_reducible first | exact HB.out | apply below_alloc | apply pw_below_drewN | apply below_drew1) | exact HB.out))); (case aF => exact (fun _ _ => trivial)); (case aO => exact (by (with_reducible repeat (first | apply Kd.R_alloc | apply Kd.R_drewN | apply Kd.R_drew)); exact HO362.out)); (case aS => exact (below_size (by repeat (first | (with_reducible first | exact HB.out | apply below_alloc | apply pw_below_drewN | apply below_drew1) | exact HB.out)))); (case aL => have := LMc6.out; omega); intro v364 w16 ho hb hg hat; rw [← Ny363.out] at ho; have n0_ := Aside0.mk (hb); have n1_ := Aside0.mk (ho); clear HB; clear HO362; have HB := n0_; have HO365 := n1_; clear n0_ n1_; clear ho hb hg hat) | ((with_reducible refine gate_dst (N := 18) rfl ?_); (try (refine gate_guard (by rfl) ?_; dsimp only)); refine Kd.R_lit (Kd.int .i64) _ 3 ?hg (N := 18) ?hd (xs := ([] : List Int)) (inner := []) (ok := fun _ => True) (okp := fun _ => True) ?hr ?hp (fun _ hk => hk) trivial (Below.refl _ _) (Nat.le_refl _) (by simp) ?_; (case hd => rfl); (case hg => rfl); (case hr => first | (go_simp; done) | (go_simp; rfl)); (case hp => exact (Reps.none _ _)); intro v367 w17 ho18 hb hg_ hnew_; clear hg_ hnew_; (first | rw [← Ny366.out] at ho18 | (simp only [Int.reduceToNat] at ho18; rw [← Ny366.out] at ho18)); have n0_ := Aside0.mk (Kd.R_elder' (by (with_reducible repeat (first | apply Kd.R_alloc | apply Kd.R_drewN | apply Kd.R_drew)); exact HO365.out) (Kd.R_base ho18) hb); have n1_ := Aside0.mk (Kd.R_lower (Kd.R_new' ho18 (Kd.R_lt (by (with_reducible repeat (first | apply Kd.R_alloc | apply Kd.R_drewN | apply Kd.R_drew)); exact HO365.out))) (below_size (by repeat (first | (with_reducible first | exact HB.out | apply below_alloc | apply pw_below_drewN | apply below_drew1) | exact HB.out)))); have n2_ := Aside0.mk (below_step (by repeat (first | (with_reducible first | exact HB.out | apply below_alloc | apply pw_below_drewN | apply below_drew1) | exact HB.out)) hb); clear HO365; clear HB; have HO365 := n0_; have HO368 := n1_; have HB := n2_; clear n0_ n1_ n2_; clear hb ho18) | ((with_reducible refine gate_builtin (b := .append) (xs := #[.tmp 18, .tmp 19]) rfl ?_); (try (refine gate_guard (by rfl) ?_; dsimp only)); at_builtin; refine Kd.R_append_rows (Kd.int .i64) (w0 := w) w.heap.size rfl (.tmp 18) (.tmp 19) 22 3 (.int .i64 0) 8 rfl Try.underlying22 info3 rfl (by decide) (by omega) v367 y366 l0 _ _ _ (fun k_ => some k_ ≠ (v364 : Value).ownBlock) (fun _ => False) rfl rfl ?aO ?aR (fun _ _ h => h) (fun _ h => h.elim) ?aF ?aB ?aS ?aL ?_; (case aR => repeat (first | exact (Kd.C_below HR0.out HB.out) | (with_reducible refine Kd.C_alloc ?_ _) | (with_reducible refine Kd.C_drewN ?_ _) | (with_reducible refine Kd.C_drew ?_))); (case aB => exact (by repeat (first | (with_reducible first | exact HB.out | apply below_alloc | apply pw_below_drewN | apply below_drew1) | exact HB.out))); (case aF => exact (fun k_ hk => Kd.fresh' (Kd.R_lt (by (with_reducible repeat (first | apply Kd.R_alloc | apply Kd.R_drewN | apply Kd.R_drew)); exact HO365.out)) k_ hk)); (case aO => exact (by (with_reducible repeat (first | apply Kd.R_alloc | apply Kd.R_drewN | apply Kd.R_drew)); exact Kd.R_mono HO368.out (fun _ hk => hk.2))); (case aS => exact (below_size (by repeat (first | (with_reducible first | exact HB.out | apply below_alloc | apply pw_below_drewN | apply below_drew1) | exact HB.out)))); (case aL => have := LMc7.out; omega); intro v370 w19 ho hb hg hat; rw [← Ny369.out] at ho; have n0_ := Aside0.mk (Kd.R_after (ok := (fun _ => True)) (by (with_reducible repeat (first | apply Kd.R_alloc | apply Kd.R_drewN | apply Kd.R_drew)); exact HO365.out) hg hat); have n1_ := Aside0.mk (hb); have n2_ := Aside0.mk (ho); clear HO365; clear HB; clear HO368; have HO365 := n0_; have HB := n1_; have HO371 := n2_; clear n0_ n1_ n2_; clear ho hb hg hat) | ((with_reducible refine gate_builtin (b := .append) (xs := #[.tmp 20, .tmp 22]) rfl ?_); (try (refine gate_guard (by rfl) ?_; dsimp only)); at_builtin; refine Kd.R_append (Kd.int .i64) (w0 := w) w.heap.size rfl (.tmp 20) (.tmp 22) 22 3 (.int .i64 0) 8 rfl Try.underlying22 info3 rfl (by decide) (by omega) v370 y369 a1 [.int .i64 a1] (fun k_ => some k_ ≠ (v364 : Value).ownBlock) (fun _ => False) rfl rfl ?aP (fun _ hk => hk.elim) ?aF ?aO ?aB ?aS ?aL ?_; (case aP => exact rfl); (case aB => exact (by repeat (first | (with_reducible first | exact HB.out | apply below_alloc | apply pw_below_drewN | apply below_drew1) | exact HB.out))); (case aF => exact (fun k_ hk => Kd.fresh' (Kd.R_lt (by (with_reducible repeat (first | apply Kd.R_alloc | apply Kd.R_drewN | apply Kd.R_drew)); exact HO365.out)) k_ hk)); (case aO => exact (by (with_reducible repeat (first | apply Kd.R_alloc | apply Kd.R_drewN | apply Kd.R_drew)); exact HO371.out)); (case aS => exact (below_size (by repeat (first | (with_reducible first | exact HB.out | apply below_alloc | apply pw_below_drewN | apply below_drew1) | exact HB.out)))); (case aL => have := LMc8.out; omega); intro v373 w20 ho hb hg hat; rw [← Ny372.out] at ho; have n0_ := Aside0.mk (Kd.R_after (ok := (fun _ => True)) (by (with_reducible repeat (first | apply Kd.R_alloc | apply Kd.R_drewN | apply Kd.R_drew)); exact HO365.out) hg hat); have n1_ := Aside0.mk (hb); have n2_ := Aside0.mk (ho); clear HO365; clear HB; clear HO371; have HO365 := n0_; have HB := n1_; have HO374 := n2_; clear n0_ n1_ n2_; clear ho hb hg hat) | ((with_reducible refine gate_callee (f := 18) rfl ?_); refine goesL_ (some 25) rfl rfl Try.func18 (by kernel_rfl) rfl #[.slice A0 l0.length c0] rfl (by (try simp only [List.map_toArray, List.map_cons, List.map_nil]); first | done | rfl | (simp only [List.length_drop, List.length_take]; rfl)) ?_; (with_reducible refine (shape_Check.calls k _ _ l0 true _ ?side1 ?side2 A9.out).mono ?_); (case side1 => repeat (first | exact (Kd.C_below HR0.out HB.out) | (with_reducible refine Kd.C_alloc ?_ _) | (with_reducible refine Kd.C_drewN ?_ _) | (with_reducible refine Kd.C_drew ?_))); (case side2 => exact HC0.out); rintro e w' ⟨rfl, ⟨nd, rfl⟩⟩; refine ⟨_, rfl, ?_⟩) | ((with_reducible refine gate_callee (f := 20) rfl ?_); refine goesL_ (some 39) rfl rfl Try.func20 (by kernel_rfl) rfl #[.slice A0 l0.length c0] rfl (by (try simp only [List.map_toArray, List.map_cons, List.map_nil]); first | done | rfl | (simp only [List.length_drop, List.length_take]; rfl)) ?_; (with_reducible refine (shape_Size.calls k _ _ l0 t378 _ ?side1 ?side2 A11.out).mono ?_); (case side1 => repeat (first | exact (Kd.C_below HR0.out (by repeat (first | (with_reducible first | exact HB.out | apply below_alloc | apply pw_below_drewN | apply below_drew1) | exact HB.out))) | (with_reducible refine Kd.C_alloc ?_ _) | (with_reducible refine Kd.C_drewN ?_ _) | (with_reducible refine Kd.C_drew ?_))); (case side2 => exact HC0.out); rintro e w' ⟨rfl, ⟨nd, rfl⟩⟩; refine ⟨_, rfl, ?_⟩))
            (try simp only [Act.put, List.setIfInBounds_toArray, List.set_cons_zero, List.set_cons_succ])
            go_cut [9] (fun v9 wc => ∃ (kq : Nat) (x9_11 : Bool), v9 = .bool x9_11 ∧ Aside0 (fullerlaw02_ShapeSizes.j0 kq l0 a1 t359 y363 y372 t378 x9_11 = some r) ∧ Aside0 (kq ≤ k) ∧ Aside0 (Kd.R (Kd.int .i64) 3 wc w.heap.size (fun k_ => some k_ ≠ (v373 : Value).ownBlock) v364 y363) ∧ Aside0 (Kd.R (Kd.int .i64) 3 wc w.heap.size (fun k_ => some k_ ≠ (v364 : Value).ownBlock) v373 y372) ∧ Aside0 (Below w.heap.size w wc))
            case first =>
              have H := HC12.out
              clear HC12
              by_cases c21 : (l0.length : Int) < 3
              · rw [if_pos c21] at H
                have c21b0 : decide ((l0.length : Int) < 3) = true := decide_eq_true c21
                have c21b1 : decide (l0.length < 3) = true := decide_eq_true (by omega)
                clear c21
                (first | rw [c21b0] | (simp only [i64_w, i32_w]; rw [c21b0]) | skip)
                by_cases c22 : a1 ≥ 1
                · rw [if_pos c22] at H
                  have c22b0 : decide (1 ≤ a1) = true := decide_eq_true c22
                  clear c22
                  by_cases c23 : a1 ≤ 16
                  · rw [if_pos c23] at H
                    have c23b0 : decide (a1 ≤ 16) = true := decide_eq_true c23
                    clear c23
                    have H' := Aside0.mk H
                    clear H
                    go_wp2
                    go_meet
                    case rel => exact ⟨_, (decide ((wrap64 (t378 * a1)) ≤ 64)), (by first | rfl | (simp; done) | (simp [*]; done)), H', ⟨by first | omega | exact Nat.le_refl _⟩, ⟨by (with_reducible repeat (first | apply Kd.R_alloc | apply Kd.R_drewN | apply Kd.R_drew)); exact Kd.R_mono HO365.out (fun _ hk => hk.2)⟩, ⟨by (with_reducible repeat (first | apply Kd.R_alloc | apply Kd.R_drewN | apply Kd.R_drew)); exact HO374.out⟩, ⟨by repeat (first | (with_reducible first | exact HB.out | apply below_alloc | apply pw_below_drewN | apply below_drew1) | exact HB.out)⟩⟩
                  · rw [if_neg c23] at H
                    have c23b0 : decide (a1 ≤ 16) = false := decide_eq_false c23
                    clear c23
                    have H' := Aside0.mk H
                    clear H
                    go_wp2
                    go_meet
                    case rel => exact ⟨_, (false), (by first | rfl | (simp; done) | (simp [*]; done)), H', ⟨by first | omega | exact Nat.le_refl _⟩, ⟨by (with_reducible repeat (first | apply Kd.R_alloc | apply Kd.R_drewN | apply Kd.R_drew)); exact Kd.R_mono HO365.out (fun _ hk => hk.2)⟩, ⟨by (with_reducible repeat (first | apply Kd.R_alloc | apply Kd.R_drewN | apply Kd.R_drew)); exact HO374.out⟩, ⟨by repeat (first | (with_reducible first | exact HB.out | apply below_alloc | apply pw_below_drewN | apply below_drew1) | exact HB.out)⟩⟩
                · rw [if_neg c22] at H
                  have c22b0 : decide (1 ≤ a1) = false := decide_eq_false c22
                  clear c22
                  have H' := Aside0.mk H
                  clear H
                  go_wp2
                  go_meet
                  case rel => exact ⟨_, (false), (by first | rfl | (simp; done) | (simp [*]; done)), H', ⟨by first | omega | exact Nat.le_refl _⟩, ⟨by (with_reducible repeat (first | apply Kd.R_alloc | apply Kd.R_drewN | apply Kd.R_drew)); exact Kd.R_mono HO365.out (fun _ hk => hk.2)⟩, ⟨by (with_reducible repeat (first | apply Kd.R_alloc | apply Kd.R_drewN | apply Kd.R_drew)); exact HO374.out⟩, ⟨by repeat (first | (with_reducible first | exact HB.out | apply below_alloc | apply pw_below_drewN | apply below_drew1) | exact HB.out)⟩⟩
              · rw [if_neg c21] at H
                have c21b0 : decide ((l0.length : Int) < 3) = false := decide_eq_false c21
                have c21b1 : decide (l0.length < 3) = false := decide_eq_false (by omega)
                clear c21
                (first | rw [c21b0] | (simp only [i64_w, i32_w]; rw [c21b0]) | skip)
                have H' := Aside0.mk H
                clear H
                go_wp2
                go_meet
                case rel => exact ⟨_, (false), (by first | rfl | (simp; done) | (simp [*]; done)), H', ⟨by first | omega | exact Nat.le_refl _⟩, ⟨by (with_reducible repeat (first | apply Kd.R_alloc | apply Kd.R_drewN | apply Kd.R_drew)); exact Kd.R_mono HO365.out (fun _ hk => hk.2)⟩, ⟨by (with_reducible repeat (first | apply Kd.R_alloc | apply Kd.R_drewN | apply Kd.R_drew)); exact HO374.out⟩, ⟨by repeat (first | (with_reducible first | exact HB.out | apply below_alloc | apply pw_below_drewN | apply below_drew1) | exact HB.out)⟩⟩
            case rest =>
              clear HC12
              try clear c1
              try clear c2
              try clear p2
              try clear c4
              try clear c4b0
              try clear c4b1
              try clear c6
              try clear p6
              try clear c7
              try clear c8
              try clear c10
              try clear c18
              try clear c20
              try clear c21
              try clear c21b0
              try clear c21b1
              try clear c22
              try clear c22b0
              try clear c23
              try clear c23b0
              obtain ⟨kq, x9_11, rfl, HA, HJ11, HO_6, HO_7, HB⟩ := hcut
              cases kq with
              | zero => exact absurd HA.out (by simp [fullerlaw02_ShapeSizes.j0])
              | succ kj11 =>
                have H := HA.out
                clear HA
                simp only [fullerlaw02_ShapeSizes.j0] at H
                by_cases c24 : t359 = true
                · subst c24
                  have H1 : (if t378 ≥ 1 then (if t378 ≤ 64 then ((shape_Check.f kj11 y363).bind fun t379 => (if (t379 == (decide ((l0.length : Int) < 3))) = true then (if (l0.length : Int) = 3 then ((shape_Check.f kj11 y372).bind fun t380 => (if (t380 == x9_11) = true then (if x9_11 = true then ((shape_Size.f kj11 y372).bind fun t381 => (some (t381 == (wrap64 (t378 * a1))))) else (some true)) else (some false))) else ((shape_Size.f kj11 y363).bind fun t382 => (if t382 = t378 then ((shape_Check.f kj11 y372).bind fun t383 => (if (t383 == x9_11) = true then (if x9_11 = true then ((shape_Size.f kj11 y372).bind fun t384 => (some (t384 == (wrap64 (t378 * a1))))) else (some true)) else (some false))) else (some false)))) else (some false))) else (some false)) else (some false)) = some r := by rw [if_pos rfl] at H; exact H
                  clear H
                  have H := H1
                  clear H1
                  by_cases c25 : t378 ≥ 1
                  · rw [if_pos c25] at H
                    have c25b0 : decide (1 ≤ t378) = true := decide_eq_true c25
                    clear c25
                    by_cases c26 : t378 ≤ 64
                    · rw [if_pos c26] at H
                      have c26b0 : decide (t378 ≤ 64) = true := decide_eq_true c26
                      clear c26
                      replace H := Option.bind_eq_some_iff.mp H
                      obtain ⟨t379, A270, H⟩ := H
                      replace H : (if (t379 == (decide ((l0.length : Int) < 3))) = true then (if (l0.length : Int) = 3 then ((shape_Check.f kj11 y372).bind fun t380 => (if (t380 == x9_11) = true then (if x9_11 = true then ((shape_Size.f kj11 y372).bind fun t381 => (some (t381 == (wrap64 (t378 * a1))))) else (some true)) else (some false))) else ((shape_Size.f kj11 y363).bind fun t382 => (if t382 = t378 then ((shape_Check.f kj11 y372).bind fun t383 => (if (t383 == x9_11) = true then (if x9_11 = true then ((shape_Size.f kj11 y372).bind fun t384 => (some (t384 == (wrap64 (t378 * a1))))) else (some true)) else (some false))) else (some false)))) else (some false)) = some r := H
                      have A27 := Aside0.mk A270
                      clear A270
                      by_cases c28 : (t379 == (decide ((l0.length : Int) < 3))) = true
                      · rw [if_pos c28] at H
                        have c28b0 : (t379 == (decide ((l0.length : Int) < 3))) = true := c28
                        (try (have c28b1 : decide (t379 = (decide ((l0.length : Int) < 3))) = true := by simpa using c28))
                        (try (have c28b2 : (t379 == (decide ((l0.length : Int) < 3))) = true := by simpa using c28))
                        clear c28
                        by_cases c29 : (l0.length : Int) = 3
                        · rw [if_pos c29] at H
                          have c29b0 : ((l0.length : Int) == 3) = true := beq_iff_eq.mpr c29
                          have c29b1 : ((l0.length : Int) != 3) = false := bne_eq_false_iff_eq.mpr c29
                          clear c29
                          replace H := Option.bind_eq_some_iff.mp H
                          obtain ⟨t380, A300, H⟩ := H
                          replace H : (if (t380 == x9_11) = true then (if x9_11 = true then ((shape_Size.f kj11 y372).bind fun t381 => (some (t381 == (wrap64 (t378 * a1))))) else (some true)) else (some false)) = some r := H
                          have A30 := Aside0.mk A300
                          clear A300
                          by_cases c31 : (t380 == x9_11) = true
                          · rw [if_pos c31] at H
                            have c31b0 : (t380 == x9_11) = true := c31
                            (try (have c31b1 : decide (t380 = x9_11) = true := by simpa using c31))
                            (try (have c31b2 : (t380 == x9_11) = true := by simpa using c31))
                            clear c31
                            by_cases c32 : x9_11 = true
                            · subst c32
                              have H1 : ((shape_Size.f kj11 y372).bind fun t381 => (some (t381 == (wrap64 (t378 * a1))))) = some r := by rw [if_pos rfl] at H; exact H
                              clear H
                              have H := H1
                              clear H1
                              replace H := Option.bind_eq_some_iff.mp H
                              obtain ⟨t381, A330, H⟩ := H
                              replace H : (some (t381 == (wrap64 (t378 * a1)))) = some r := H
                              have A33 := Aside0.mk A330
                              clear A330
                              obtain rfl := Option.some.inj H
                              obtain ⟨Ao34, co34, eo34⟩ := Kd.R_slice HO_6.out
                              subst eo34
                              go_wp2_with (first | (go_at_call 18; (with_reducible refine (shape_Check.calls kj11 _ _ y363 t379 _ ?side1 ?side2 A27.out).mono ?_); (case side1 => repeat (first | exact (Kd.R_reads' HO_6.out).2.2 | (with_reducible refine Kd.C_alloc ?_ _) | (with_reducible refine Kd.C_drewN ?_ _) | (with_reducible refine Kd.C_drew ?_))); (case side2 => exact (Kd.R_reads' HO_6.out).2.1); rintro e w' ⟨rfl, ⟨nd, rfl⟩⟩; obtain ⟨Ao35, co35, eo35⟩ := Kd.R_slice HO_7.out; subst eo35) | (go_at_call 18; (with_reducible refine (shape_Check.calls kj11 _ _ y372 t380 _ ?side1 ?side2 A30.out).mono ?_); (case side1 => repeat (first | exact (Kd.R_reads' HO_7.out).2.2 | (with_reducible refine Kd.C_alloc ?_ _) | (with_reducible refine Kd.C_drewN ?_ _) | (with_reducible refine Kd.C_drew ?_))); (case side2 => exact (Kd.R_reads' HO_7.out).2.1); rintro e w' ⟨rfl, ⟨nd, rfl⟩⟩) | (go_at_call 20; (with_reducible refine (shape_Size.calls kj11 _ _ y372 t381 _ ?side1 ?side2 A33.out).mono ?_); (case side1 => repeat (first | exact (Kd.R_reads' HO_7.out).2.2 | (with_reducible refine Kd.C_alloc ?_ _) | (with_reducible refine Kd.C_drewN ?_ _) | (with_reducible refine Kd.C_drew ?_))); (case side2 => exact (Kd.R_reads' HO_7.out).2.1); rintro e w' ⟨rfl, ⟨nd, rfl⟩⟩))
                              go_ret
                              exact ⟨by first | rfl | (simp [errW_none, errW_some] <;> rfl) | (simp [*, errW_none, errW_some] <;> rfl), by repeat (first | (with_reducible first | exact HB.out | apply below_alloc | apply pw_below_drewN | apply below_drew1) | exact HB.out)⟩
                            · replace c32 := Bool.eq_false_iff.mpr c32
                              subst c32
                              have H1 : (some true) = some r := by rw [if_neg (show ¬ (false = true) by decide)] at H; exact H
                              clear H
                              have H := H1
                              clear H1
                              obtain rfl := Option.some.inj H
                              obtain ⟨Ao36, co36, eo36⟩ := Kd.R_slice HO_6.out
                              subst eo36
                              go_wp2_with (first | (go_at_call 18; (with_reducible refine (shape_Check.calls kj11 _ _ y363 t379 _ ?side1 ?side2 A27.out).mono ?_); (case side1 => repeat (first | exact (Kd.R_reads' HO_6.out).2.2 | (with_reducible refine Kd.C_alloc ?_ _) | (with_reducible refine Kd.C_drewN ?_ _) | (with_reducible refine Kd.C_drew ?_))); (case side2 => exact (Kd.R_reads' HO_6.out).2.1); rintro e w' ⟨rfl, ⟨nd, rfl⟩⟩; obtain ⟨Ao37, co37, eo37⟩ := Kd.R_slice HO_7.out; subst eo37) | (go_at_call 18; (with_reducible refine (shape_Check.calls kj11 _ _ y372 t380 _ ?side1 ?side2 A30.out).mono ?_); (case side1 => repeat (first | exact (Kd.R_reads' HO_7.out).2.2 | (with_reducible refine Kd.C_alloc ?_ _) | (with_reducible refine Kd.C_drewN ?_ _) | (with_reducible refine Kd.C_drew ?_))); (case side2 => exact (Kd.R_reads' HO_7.out).2.1); rintro e w' ⟨rfl, ⟨nd, rfl⟩⟩))
                              go_ret
                              exact ⟨by first | rfl | (simp [errW_none, errW_some] <;> rfl) | (simp [*, errW_none, errW_some] <;> rfl), by repeat (first | (with_reducible first | exact HB.out | apply below_alloc | apply pw_below_drewN | apply below_drew1) | exact HB.out)⟩
                          · rw [if_neg c31] at H
                            have c31b0 : (t380 == x9_11) = false := by simpa using c31
                            (try (have c31b1 : decide (t380 = x9_11) = false := by simpa using c31))
                            (try (have c31b2 : (t380 == x9_11) = false := by simpa using c31))
                            (try (have c31b3 : ¬ (t380 = x9_11) := by simpa using c31))
                            clear c31
                            obtain rfl := Option.some.inj H
                            obtain ⟨Ao38, co38, eo38⟩ := Kd.R_slice HO_6.out
                            subst eo38
                            go_wp2_with (first | (go_at_call 18; (with_reducible refine (shape_Check.calls kj11 _ _ y363 t379 _ ?side1 ?side2 A27.out).mono ?_); (case side1 => repeat (first | exact (Kd.R_reads' HO_6.out).2.2 | (with_reducible refine Kd.C_alloc ?_ _) | (with_reducible refine Kd.C_drewN ?_ _) | (with_reducible refine Kd.C_drew ?_))); (case side2 => exact (Kd.R_reads' HO_6.out).2.1); rintro e w' ⟨rfl, ⟨nd, rfl⟩⟩; obtain ⟨Ao39, co39, eo39⟩ := Kd.R_slice HO_7.out; subst eo39) | (go_at_call 18; (with_reducible refine (shape_Check.calls kj11 _ _ y372 t380 _ ?side1 ?side2 A30.out).mono ?_); (case side1 => repeat (first | exact (Kd.R_reads' HO_7.out).2.2 | (with_reducible refine Kd.C_alloc ?_ _) | (with_reducible refine Kd.C_drewN ?_ _) | (with_reducible refine Kd.C_drew ?_))); (case side2 => exact (Kd.R_reads' HO_7.out).2.1); rintro e w' ⟨rfl, ⟨nd, rfl⟩⟩))
                            go_ret
                            exact ⟨by first | rfl | (simp [errW_none, errW_some] <;> rfl) | (simp [*, errW_none, errW_some] <;> rfl), by repeat (first | (with_reducible first | exact HB.out | apply below_alloc | apply pw_below_drewN | apply below_drew1) | exact HB.out)⟩
                        · rw [if_neg c29] at H
                          have c29b0 : ((l0.length : Int) == 3) = false := beq_eq_false_iff_ne.mpr c29
                          have c29b1 : ((l0.length : Int) != 3) = true := bne_iff_ne.mpr c29
                          replace H := Option.bind_eq_some_iff.mp H
                          obtain ⟨t382, A400, H⟩ := H
                          replace H : (if t382 = t378 then ((shape_Check.f kj11 y372).bind fun t383 => (if (t383 == x9_11) = true then (if x9_11 = true then ((shape_Size.f kj11 y372).bind fun t384 => (some (t384 == (wrap64 (t378 * a1))))) else (some true)) else (some false))) else (some false)) = some r := H
                          have A40 := Aside0.mk A400
                          clear A400
                          by_cases c41 : t382 = t378
                          · rw [if_pos c41] at H
                            have c41b0 : (t382 == t378) = true := beq_iff_eq.mpr c41
                            have c41b1 : (t382 != t378) = false := bne_eq_false_iff_eq.mpr c41
                            clear c41
                            replace H := Option.bind_eq_some_iff.mp H
                            obtain ⟨t383, A420, H⟩ := H
                            replace H : (if (t383 == x9_11) = true then (if x9_11 = true then ((shape_Size.f kj11 y372).bind fun t384 => (some (t384 == (wrap64 (t378 * a1))))) else (some true)) else (some false)) = some r := H
                            have A42 := Aside0.mk A420
                            clear A420
                            by_cases c43 : (t383 == x9_11) = true
                            · rw [if_pos c43] at H
                              have c43b0 : (t383 == x9_11) = true := c43
                              (try (have c43b1 : decide (t383 = x9_11) = true := by simpa using c43))
                              (try (have c43b2 : (t383 == x9_11) = true := by simpa using c43))
                              clear c43
                              by_cases c44 : x9_11 = true
                              · subst c44
                                have H1 : ((shape_Size.f kj11 y372).bind fun t384 => (some (t384 == (wrap64 (t378 * a1))))) = some r := by rw [if_pos rfl] at H; exact H
                                clear H
                                have H := H1
                                clear H1
                                replace H := Option.bind_eq_some_iff.mp H
                                obtain ⟨t384, A450, H⟩ := H
                                replace H : (some (t384 == (wrap64 (t378 * a1)))) = some r := H
                                have A45 := Aside0.mk A450
                                clear A450
                                obtain rfl := Option.some.inj H
                                obtain ⟨Ao46, co46, eo46⟩ := Kd.R_slice HO_6.out
                                subst eo46
                                go_wp2_with (first | (go_at_call 18; (with_reducible refine (shape_Check.calls kj11 _ _ y363 t379 _ ?side1 ?side2 A27.out).mono ?_); (case side1 => repeat (first | exact (Kd.R_reads' HO_6.out).2.2 | (with_reducible refine Kd.C_alloc ?_ _) | (with_reducible refine Kd.C_drewN ?_ _) | (with_reducible refine Kd.C_drew ?_))); (case side2 => exact (Kd.R_reads' HO_6.out).2.1); rintro e w' ⟨rfl, ⟨nd, rfl⟩⟩) | (go_at_call 20; (with_reducible refine (shape_Size.calls kj11 _ _ y363 t382 _ ?side1 ?side2 A40.out).mono ?_); (case side1 => repeat (first | exact (Kd.R_reads' HO_6.out).2.2 | (with_reducible refine Kd.C_alloc ?_ _) | (with_reducible refine Kd.C_drewN ?_ _) | (with_reducible refine Kd.C_drew ?_))); (case side2 => exact (Kd.R_reads' HO_6.out).2.1); rintro e w' ⟨rfl, ⟨nd, rfl⟩⟩; obtain ⟨Ao47, co47, eo47⟩ := Kd.R_slice HO_7.out; subst eo47) | (go_at_call 18; (with_reducible refine (shape_Check.calls kj11 _ _ y372 t383 _ ?side1 ?side2 A42.out).mono ?_); (case side1 => repeat (first | exact (Kd.R_reads' HO_7.out).2.2 | (with_reducible refine Kd.C_alloc ?_ _) | (with_reducible refine Kd.C_drewN ?_ _) | (with_reducible refine Kd.C_drew ?_))); (case side2 => exact (Kd.R_reads' HO_7.out).2.1); rintro e w' ⟨rfl, ⟨nd, rfl⟩⟩) | (go_at_call 20; (with_reducible refine (shape_Size.calls kj11 _ _ y372 t384 _ ?side1 ?side2 A45.out).mono ?_); (case side1 => repeat (first | exact (Kd.R_reads' HO_7.out).2.2 | (with_reducible refine Kd.C_alloc ?_ _) | (with_reducible refine Kd.C_drewN ?_ _) | (with_reducible refine Kd.C_drew ?_))); (case side2 => exact (Kd.R_reads' HO_7.out).2.1); rintro e w' ⟨rfl, ⟨nd, rfl⟩⟩))
                                go_ret
                                exact ⟨by first | rfl | (simp [errW_none, errW_some] <;> rfl) | (simp [*, errW_none, errW_some] <;> rfl), by repeat (first | (with_reducible first | exact HB.out | apply below_alloc | apply pw_below_drewN | apply below_drew1) | exact HB.out)⟩
                              · replace c44 := Bool.eq_false_iff.mpr c44
                                subst c44
                                have H1 : (some true) = some r := by rw [if_neg (show ¬ (false = true) by decide)] at H; exact H
                                clear H
                                have H := H1
                                clear H1
                                obtain rfl := Option.some.inj H
                                obtain ⟨Ao48, co48, eo48⟩ := Kd.R_slice HO_6.out
                                subst eo48
                                go_wp2_with (first | (go_at_call 18; (with_reducible refine (shape_Check.calls kj11 _ _ y363 t379 _ ?side1 ?side2 A27.out).mono ?_); (case side1 => repeat (first | exact (Kd.R_reads' HO_6.out).2.2 | (with_reducible refine Kd.C_alloc ?_ _) | (with_reducible refine Kd.C_drewN ?_ _) | (with_reducible refine Kd.C_drew ?_))); (case side2 => exact (Kd.R_reads' HO_6.out).2.1); rintro e w' ⟨rfl, ⟨nd, rfl⟩⟩) | (go_at_call 20; (with_reducible refine (shape_Size.calls kj11 _ _ y363 t382 _ ?side1 ?side2 A40.out).mono ?_); (case side1 => repeat (first | exact (Kd.R_reads' HO_6.out).2.2 | (with_reducible refine Kd.C_alloc ?_ _) | (with_reducible refine Kd.C_drewN ?_ _) | (with_reducible refine Kd.C_drew ?_))); (case side2 => exact (Kd.R_reads' HO_6.out).2.1); rintro e w' ⟨rfl, ⟨nd, rfl⟩⟩; obtain ⟨Ao49, co49, eo49⟩ := Kd.R_slice HO_7.out; subst eo49) | (go_at_call 18; (with_reducible refine (shape_Check.calls kj11 _ _ y372 t383 _ ?side1 ?side2 A42.out).mono ?_); (case side1 => repeat (first | exact (Kd.R_reads' HO_7.out).2.2 | (with_reducible refine Kd.C_alloc ?_ _) | (with_reducible refine Kd.C_drewN ?_ _) | (with_reducible refine Kd.C_drew ?_))); (case side2 => exact (Kd.R_reads' HO_7.out).2.1); rintro e w' ⟨rfl, ⟨nd, rfl⟩⟩))
                                go_ret
                                exact ⟨by first | rfl | (simp [errW_none, errW_some] <;> rfl) | (simp [*, errW_none, errW_some] <;> rfl), by repeat (first | (with_reducible first | exact HB.out | apply below_alloc | apply pw_below_drewN | apply below_drew1) | exact HB.out)⟩
                            · rw [if_neg c43] at H
                              have c43b0 : (t383 == x9_11) = false := by simpa using c43
                              (try (have c43b1 : decide (t383 = x9_11) = false := by simpa using c43))
                              (try (have c43b2 : (t383 == x9_11) = false := by simpa using c43))
                              (try (have c43b3 : ¬ (t383 = x9_11) := by simpa using c43))
                              clear c43
                              obtain rfl := Option.some.inj H
                              obtain ⟨Ao50, co50, eo50⟩ := Kd.R_slice HO_6.out
                              subst eo50
                              go_wp2_with (first | (go_at_call 18; (with_reducible refine (shape_Check.calls kj11 _ _ y363 t379 _ ?side1 ?side2 A27.out).mono ?_); (case side1 => repeat (first | exact (Kd.R_reads' HO_6.out).2.2 | (with_reducible refine Kd.C_alloc ?_ _) | (with_reducible refine Kd.C_drewN ?_ _) | (with_reducible refine Kd.C_drew ?_))); (case side2 => exact (Kd.R_reads' HO_6.out).2.1); rintro e w' ⟨rfl, ⟨nd, rfl⟩⟩) | (go_at_call 20; (with_reducible refine (shape_Size.calls kj11 _ _ y363 t382 _ ?side1 ?side2 A40.out).mono ?_); (case side1 => repeat (first | exact (Kd.R_reads' HO_6.out).2.2 | (with_reducible refine Kd.C_alloc ?_ _) | (with_reducible refine Kd.C_drewN ?_ _) | (with_reducible refine Kd.C_drew ?_))); (case side2 => exact (Kd.R_reads' HO_6.out).2.1); rintro e w' ⟨rfl, ⟨nd, rfl⟩⟩; obtain ⟨Ao51, co51, eo51⟩ := Kd.R_slice HO_7.out; subst eo51) | (go_at_call 18; (with_reducible refine (shape_Check.calls kj11 _ _ y372 t383 _ ?side1 ?side2 A42.out).mono ?_); (case side1 => repeat (first | exact (Kd.R_reads' HO_7.out).2.2 | (with_reducible refine Kd.C_alloc ?_ _) | (with_reducible refine Kd.C_drewN ?_ _) | (with_reducible refine Kd.C_drew ?_))); (case side2 => exact (Kd.R_reads' HO_7.out).2.1); rintro e w' ⟨rfl, ⟨nd, rfl⟩⟩))
                              go_ret
                              exact ⟨by first | rfl | (simp [errW_none, errW_some] <;> rfl) | (simp [*, errW_none, errW_some] <;> rfl), by repeat (first | (with_reducible first | exact HB.out | apply below_alloc | apply pw_below_drewN | apply below_drew1) | exact HB.out)⟩
                          · rw [if_neg c41] at H
                            have c41b0 : (t382 == t378) = false := beq_eq_false_iff_ne.mpr c41
                            have c41b1 : (t382 != t378) = true := bne_iff_ne.mpr c41
                            obtain rfl := Option.some.inj H
                            obtain ⟨Ao52, co52, eo52⟩ := Kd.R_slice HO_6.out
                            subst eo52
                            go_wp2_with (first | (go_at_call 18; (with_reducible refine (shape_Check.calls kj11 _ _ y363 t379 _ ?side1 ?side2 A27.out).mono ?_); (case side1 => repeat (first | exact (Kd.R_reads' HO_6.out).2.2 | (with_reducible refine Kd.C_alloc ?_ _) | (with_reducible refine Kd.C_drewN ?_ _) | (with_reducible refine Kd.C_drew ?_))); (case side2 => exact (Kd.R_reads' HO_6.out).2.1); rintro e w' ⟨rfl, ⟨nd, rfl⟩⟩) | (go_at_call 20; (with_reducible refine (shape_Size.calls kj11 _ _ y363 t382 _ ?side1 ?side2 A40.out).mono ?_); (case side1 => repeat (first | exact (Kd.R_reads' HO_6.out).2.2 | (with_reducible refine Kd.C_alloc ?_ _) | (with_reducible refine Kd.C_drewN ?_ _) | (with_reducible refine Kd.C_drew ?_))); (case side2 => exact (Kd.R_reads' HO_6.out).2.1); rintro e w' ⟨rfl, ⟨nd, rfl⟩⟩))
                            go_ret
                            exact ⟨by first | rfl | (simp [errW_none, errW_some] <;> rfl) | (simp [*, errW_none, errW_some] <;> rfl), by repeat (first | (with_reducible first | exact HB.out | apply below_alloc | apply pw_below_drewN | apply below_drew1) | exact HB.out)⟩
                      · rw [if_neg c28] at H
                        have c28b0 : (t379 == (decide ((l0.length : Int) < 3))) = false := by simpa using c28
                        (try (have c28b1 : decide (t379 = (decide ((l0.length : Int) < 3))) = false := by simpa using c28))
                        (try (have c28b2 : (t379 == (decide ((l0.length : Int) < 3))) = false := by simpa using c28))
                        (try (have c28b3 : ¬ (t379 = (decide ((l0.length : Int) < 3))) := by simpa using c28))
                        clear c28
                        obtain rfl := Option.some.inj H
                        obtain ⟨Ao53, co53, eo53⟩ := Kd.R_slice HO_6.out
                        subst eo53
                        go_wp2_with (first | (go_at_call 18; (with_reducible refine (shape_Check.calls kj11 _ _ y363 t379 _ ?side1 ?side2 A27.out).mono ?_); (case side1 => repeat (first | exact (Kd.R_reads' HO_6.out).2.2 | (with_reducible refine Kd.C_alloc ?_ _) | (with_reducible refine Kd.C_drewN ?_ _) | (with_reducible refine Kd.C_drew ?_))); (case side2 => exact (Kd.R_reads' HO_6.out).2.1); rintro e w' ⟨rfl, ⟨nd, rfl⟩⟩))
                        go_ret
                        exact ⟨by first | rfl | (simp [errW_none, errW_some] <;> rfl) | (simp [*, errW_none, errW_some] <;> rfl), by repeat (first | (with_reducible first | exact HB.out | apply below_alloc | apply pw_below_drewN | apply below_drew1) | exact HB.out)⟩
                    · rw [if_neg c26] at H
                      have c26b0 : decide (t378 ≤ 64) = false := decide_eq_false c26
                      clear c26
                      obtain rfl := Option.some.inj H
                      go_wp2
                      go_ret
                      exact ⟨by first | rfl | (simp [errW_none, errW_some] <;> rfl) | (simp [*, errW_none, errW_some] <;> rfl), by repeat (first | (with_reducible first | exact HB.out | apply below_alloc | apply pw_below_drewN | apply below_drew1) | exact HB.out)⟩
                  · rw [if_neg c25] at H
                    have c25b0 : decide (1 ≤ t378) = false := decide_eq_false c25
                    clear c25
                    obtain rfl := Option.some.inj H
                    go_wp2
                    go_ret
                    exact ⟨by first | rfl | (simp [errW_none, errW_some] <;> rfl) | (simp [*, errW_none, errW_some] <;> rfl), by repeat (first | (with_reducible first | exact HB.out | apply below_alloc | apply pw_below_drewN | apply below_drew1) | exact HB.out)⟩
                · replace c24 := Bool.eq_false_iff.mpr c24
                  subst c24
                  have H1 : (some false) = some r := by rw [if_neg (show ¬ (false = true) by decide)] at H; exact H
                  clear H
                  have H := H1
                  clear H1
                  obtain rfl := Option.some.inj H
                  go_wp2
                  go_ret
                  exact ⟨by first | rfl | (simp [errW_none, errW_some] <;> rfl) | (simp [*, errW_none, errW_some] <;> rfl), by repeat (first | (with_reducible first | exact HB.out | apply below_alloc | apply pw_below_drewN | apply below_drew1) | exact HB.out)⟩
          · replace c10 := Bool.eq_false_iff.mpr c10
            subst c10
            have H1 : (if t359 = true then ((shape_Size.f k l0).bind fun t376 => (if t376 = 0 then ((shape_Check.f k y372).bind fun t377 => (some (!t377))) else (some false))) else (some false)) = some r := by rw [if_neg (show ¬ (false = true) by decide)] at H; exact H
            clear H
            have H := H1
            clear H1
            by_cases c54 : t359 = true
            · subst c54
              have H1 : ((shape_Size.f k l0).bind fun t376 => (if t376 = 0 then ((shape_Check.f k y372).bind fun t377 => (some (!t377))) else (some false))) = some r := by rw [if_pos rfl] at H; exact H
              clear H
              have H := H1
              clear H1
              replace H := Option.bind_eq_some_iff.mp H
              obtain ⟨t376, A550, H⟩ := H
              replace H : (if t376 = 0 then ((shape_Check.f k y372).bind fun t377 => (some (!t377))) else (some false)) = some r := H
              have A55 := Aside0.mk A550
              clear A550
              by_cases c56 : t376 = 0
              · rw [if_pos c56] at H
                have c56b0 : (t376 == 0) = true := beq_iff_eq.mpr c56
                have c56b1 : (t376 != 0) = false := bne_eq_false_iff_eq.mpr c56
                clear c56
                replace H := Option.bind_eq_some_iff.mp H
                obtain ⟨t377, A570, H⟩ := H
                replace H : (some (!t377)) = some r := H
                have A57 := Aside0.mk A570
                clear A570
                obtain rfl := Option.some.inj H
                go_enter Try.func7, Try.ntmps7
                go_wp2_with (first | ((with_reducible refine gate_callee (f := 10) rfl ?_); refine goesL_ (some 10) rfl rfl Try.func10 (by kernel_rfl) rfl #[] rfl (by (try simp only [List.map_toArray, List.map_cons, List.map_nil]); first | done | rfl | (simp only [List.length_drop, List.length_take]; rfl)) ?_; (with_reducible refine (fullerlaw02_awake.calls k  true _ A3.out).mono ?_); rintro e w58 ⟨rfl, hb⟩; refine ⟨_, rfl, ?_⟩; have n0_ := Aside0.mk (below_step (by repeat (first | (with_reducible first | exact HB.out | apply below_alloc | apply pw_below_drewN | apply below_drew1) | exact HB.out)) hb); clear HB; have HB := n0_; clear n0_; (try clear hb); (try clear hb2); (try clear hk); (try clear hi)) | ((with_reducible refine gate_dst (N := 15) rfl ?_); (try (refine gate_guard (by rfl) ?_; dsimp only)); refine Kd.R_lit (Kd.int .i64) _ 3 ?hg (N := 15) ?hd (xs := ([1] : List Int)) (inner := [.int .i64 1]) (ok := fun _ => True) (okp := fun _ => True) ?hr ?hp (fun _ hk => hk) trivial (Below.refl _ _) (Nat.le_refl _) (by simp) ?_; (case hd => rfl); (case hg => rfl); (case hr => first | (go_simp; done) | (go_simp; rfl)); (case hp => exact (Reps.one (show Kd.M (Kd.int .i64) _ _ _ 1 [.int .i64 1] from rfl) (Reps.none _ _))); intro v361 w59 ho60 hb hg_ hnew_; clear hg_ hnew_; (first | rw [← Ny360.out] at ho60 | (simp only [Int.reduceToNat] at ho60; rw [← Ny360.out] at ho60)); have n0_ := Aside0.mk (Kd.R_lower ho60 (below_size (by repeat (first | (with_reducible first | exact HB.out | apply below_alloc | apply pw_below_drewN | apply below_drew1) | exact HB.out)))); have n1_ := Aside0.mk (below_step (by repeat (first | (with_reducible first | exact HB.out | apply below_alloc | apply pw_below_drewN | apply below_drew1) | exact HB.out)) hb); clear HB; have HO362 := n0_; have HB := n1_; clear n0_ n1_; clear hb ho60) | ((with_reducible refine gate_builtin (b := .append) (xs := #[.tmp 15, .tmp 16]) rfl ?_); (try (refine gate_guard (by rfl) ?_; dsimp only)); at_builtin; refine Kd.R_append_rows (Kd.int .i64) (w0 := w) w.heap.size rfl (.tmp 15) (.tmp 16) 22 3 (.int .i64 0) 8 rfl Try.underlying22 info3 rfl (by decide) (by omega) v361 y360 l0 _ _ _ (fun _ => True) (fun _ => False) rfl rfl ?aO ?aR (fun _ _ h => h) (fun _ h => h.elim) ?aF ?aB ?aS ?aL ?_; (case aR => repeat (first | exact (Kd.C_below HR0.out HB.out) | (with_reducible refine Kd.C_alloc ?_ _) | (with_reducible refine Kd.C_drewN ?_ _) | (with_reducible refine Kd.C_drew ?_))); (case aB => exact (by repeat (first | (with_reducible first | exact HB.out | apply below_alloc | apply pw_below_drewN | apply below_drew1) | exact HB.out))); (case aF => exact (fun _ _ => trivial)); (case aO => exact (by (with_reducible repeat (first | apply Kd.R_alloc | apply Kd.R_drewN | apply Kd.R_drew)); exact HO362.out)); (case aS => exact (below_size (by repeat (first | (with_reducible first | exact HB.out | apply below_alloc | apply pw_below_drewN | apply below_drew1) | exact HB.out)))); (case aL => have := LMc6.out; omega); intro v364 w61 ho hb hg hat; rw [← Ny363.out] at ho; have n0_ := Aside0.mk (hb); have n1_ := Aside0.mk (ho); clear HB; clear HO362; have HB := n0_; have HO365 := n1_; clear n0_ n1_; clear ho hb hg hat) | ((with_reducible refine gate_dst (N := 18) rfl ?_); (try (refine gate_guard (by rfl) ?_; dsimp only)); refine Kd.R_lit (Kd.int .i64) _ 3 ?hg (N := 18) ?hd (xs := ([] : List Int)) (inner := []) (ok := fun _ => True) (okp := fun _ => True) ?hr ?hp (fun _ hk => hk) trivial (Below.refl _ _) (Nat.le_refl _) (by simp) ?_; (case hd => rfl); (case hg => rfl); (case hr => first | (go_simp; done) | (go_simp; rfl)); (case hp => exact (Reps.none _ _)); intro v367 w62 ho63 hb hg_ hnew_; clear hg_ hnew_; (first | rw [← Ny366.out] at ho63 | (simp only [Int.reduceToNat] at ho63; rw [← Ny366.out] at ho63)); have n0_ := Aside0.mk (Kd.R_elder' (by (with_reducible repeat (first | apply Kd.R_alloc | apply Kd.R_drewN | apply Kd.R_drew)); exact HO365.out) (Kd.R_base ho63) hb); have n1_ := Aside0.mk (Kd.R_lower (Kd.R_new' ho63 (Kd.R_lt (by (with_reducible repeat (first | apply Kd.R_alloc | apply Kd.R_drewN | apply Kd.R_drew)); exact HO365.out))) (below_size (by repeat (first | (with_reducible first | exact HB.out | apply below_alloc | apply pw_below_drewN | apply below_drew1) | exact HB.out)))); have n2_ := Aside0.mk (below_step (by repeat (first | (with_reducible first | exact HB.out | apply below_alloc | apply pw_below_drewN | apply below_drew1) | exact HB.out)) hb); clear HO365; clear HB; have HO365 := n0_; have HO368 := n1_; have HB := n2_; clear n0_ n1_ n2_; clear hb ho63) | ((with_reducible refine gate_builtin (b := .append) (xs := #[.tmp 18, .tmp 19]) rfl ?_); (try (refine gate_guard (by rfl) ?_; dsimp only)); at_builtin; refine Kd.R_append_rows (Kd.int .i64) (w0 := w) w.heap.size rfl (.tmp 18) (.tmp 19) 22 3 (.int .i64 0) 8 rfl Try.underlying22 info3 rfl (by decide) (by omega) v367 y366 l0 _ _ _ (fun k_ => some k_ ≠ (v364 : Value).ownBlock) (fun _ => False) rfl rfl ?aO ?aR (fun _ _ h => h) (fun _ h => h.elim) ?aF ?aB ?aS ?aL ?_; (case aR => repeat (first | exact (Kd.C_below HR0.out HB.out) | (with_reducible refine Kd.C_alloc ?_ _) | (with_reducible refine Kd.C_drewN ?_ _) | (with_reducible refine Kd.C_drew ?_))); (case aB => exact (by repeat (first | (with_reducible first | exact HB.out | apply below_alloc | apply pw_below_drewN | apply below_drew1) | exact HB.out))); (case aF => exact (fun k_ hk => Kd.fresh' (Kd.R_lt (by (with_reducible repeat (first | apply Kd.R_alloc | apply Kd.R_drewN | apply Kd.R_drew)); exact HO365.out)) k_ hk)); (case aO => exact (by (with_reducible repeat (first | apply Kd.R_alloc | apply Kd.R_drewN | apply Kd.R_drew)); exact Kd.R_mono HO368.out (fun _ hk => hk.2))); (case aS => exact (below_size (by repeat (first | (with_reducible first | exact HB.out | apply below_alloc | apply pw_below_drewN | apply below_drew1) | exact HB.out)))); (case aL => have := LMc7.out; omega); intro v370 w64 ho hb hg hat; rw [← Ny369.out] at ho; have n0_ := Aside0.mk (Kd.R_after (ok := (fun _ => True)) (by (with_reducible repeat (first | apply Kd.R_alloc | apply Kd.R_drewN | apply Kd.R_drew)); exact HO365.out) hg hat); have n1_ := Aside0.mk (hb); have n2_ := Aside0.mk (ho); clear HO365; clear HB; clear HO368; have HO365 := n0_; have HB := n1_; have HO371 := n2_; clear n0_ n1_ n2_; clear ho hb hg hat) | ((with_reducible refine gate_builtin (b := .append) (xs := #[.tmp 20, .tmp 22]) rfl ?_); (try (refine gate_guard (by rfl) ?_; dsimp only)); at_builtin; refine Kd.R_append (Kd.int .i64) (w0 := w) w.heap.size rfl (.tmp 20) (.tmp 22) 22 3 (.int .i64 0) 8 rfl Try.underlying22 info3 rfl (by decide) (by omega) v370 y369 a1 [.int .i64 a1] (fun k_ => some k_ ≠ (v364 : Value).ownBlock) (fun _ => False) rfl rfl ?aP (fun _ hk => hk.elim) ?aF ?aO ?aB ?aS ?aL ?_; (case aP => exact rfl); (case aB => exact (by repeat (first | (with_reducible first | exact HB.out | apply below_alloc | apply pw_below_drewN | apply below_drew1) | exact HB.out))); (case aF => exact (fun k_ hk => Kd.fresh' (Kd.R_lt (by (with_reducible repeat (first | apply Kd.R_alloc | apply Kd.R_drewN | apply Kd.R_drew)); exact HO365.out)) k_ hk)); (case aO => exact (by (with_reducible repeat (first | apply Kd.R_alloc | apply Kd.R_drewN | apply Kd.R_drew)); exact HO371.out)); (case aS => exact (below_size (by repeat (first | (with_reducible first | exact HB.out | apply below_alloc | apply pw_below_drewN | apply below_drew1) | exact HB.out)))); (case aL => have := LMc8.out; omega); intro v373 w65 ho hb hg hat; rw [← Ny372.out] at ho; have n0_ := Aside0.mk (Kd.R_after (ok := (fun _ => True)) (by (with_reducible repeat (first | apply Kd.R_alloc | apply Kd.R_drewN | apply Kd.R_drew)); exact HO365.out) hg hat); have n1_ := Aside0.mk (hb); have n2_ := Aside0.mk (ho); clear HO365; clear HB; clear HO371; have HO365 := n0_; have HB := n1_; have HO374 := n2_; clear n0_ n1_ n2_; clear ho hb hg hat) | ((with_reducible refine gate_callee (f := 18) rfl ?_); refine goesL_ (some 25) rfl rfl Try.func18 (by kernel_rfl) rfl #[.slice A0 l0.length c0] rfl (by (try simp only [List.map_toArray, List.map_cons, List.map_nil]); first | done | rfl | (simp only [List.length_drop, List.length_take]; rfl)) ?_; (with_reducible refine (shape_Check.calls k _ _ l0 false _ ?side1 ?side2 A9.out).mono ?_); (case side1 => repeat (first | exact (Kd.C_below HR0.out HB.out) | (with_reducible refine Kd.C_alloc ?_ _) | (with_reducible refine Kd.C_drewN ?_ _) | (with_reducible refine Kd.C_drew ?_))); (case side2 => exact HC0.out); rintro e w' ⟨rfl, ⟨nd, rfl⟩⟩; refine ⟨_, rfl, ?_⟩) | (go_at_call 20; (with_reducible refine (shape_Size.calls k _ _ l0 t376 _ ?side1 ?side2 A55.out).mono ?_); (case side1 => repeat (first | exact (Kd.C_below HR0.out (by repeat (first | (with_reducible first | exact HB.out | apply below_alloc | apply pw_below_drewN | apply below_drew1) | exact HB.out))) | (with_reducible refine Kd.C_alloc ?_ _) | (with_reducible refine Kd.C_drewN ?_ _) | (with_reducible refine Kd.C_drew ?_))); (case side2 => exact HC0.out); rintro e w' ⟨rfl, ⟨nd, rfl⟩⟩; obtain ⟨Ao66, co66, eo66⟩ := Kd.R_slice HO374.out; subst eo66) | (go_at_call 18; (with_reducible refine (shape_Check.calls k _ _ y372 t377 _ ?side1 ?side2 A57.out).mono ?_); (case side1 => repeat (first | exact (Kd.R_reads' HO374.out).2.2 | (with_reducible refine Kd.C_alloc ?_ _) | (with_reducible refine Kd.C_drewN ?_ _) | (with_reducible refine Kd.C_drew ?_))); (case side2 => exact (Kd.R_reads' HO374.out).2.1); rintro e w' ⟨rfl, ⟨nd, rfl⟩⟩))
                go_ret
                exact ⟨by first | rfl | (simp [errW_none, errW_some] <;> rfl) | (simp [*, errW_none, errW_some] <;> rfl), by repeat (first | (with_reducible first | exact HB.out | apply below_alloc | apply pw_below_drewN | apply below_drew1) | exact HB.out)⟩
              · rw [if_neg c56] at H
                have c56b0 : (t376 == 0) = false := beq_eq_false_iff_ne.mpr c56
                have c56b1 : (t376 != 0) = true := bne_iff_ne.mpr c56
                obtain rfl := Option.some.inj H
                go_enter Try.func7, Try.ntmps7
                go_wp2_with (first | ((with_reducible refine gate_callee (f := 10) rfl ?_); refine goesL_ (some 10) rfl rfl Try.func10 (by kernel_rfl) rfl #[] rfl (by (try simp only [List.map_toArray, List.map_cons, List.map_nil]); first | done | rfl | (simp only [List.length_drop, List.length_take]; rfl)) ?_; (with_reducible refine (fullerlaw02_awake.calls k  true _ A3.out).mono ?_); rintro e w67 ⟨rfl, hb⟩; refine ⟨_, rfl, ?_⟩; have n0_ := Aside0.mk (below_step (by repeat (first | (with_reducible first | exact HB.out | apply below_alloc | apply pw_below_drewN | apply below_drew1) | exact HB.out)) hb); clear HB; have HB := n0_; clear n0_; (try clear hb); (try clear hb2); (try clear hk); (try clear hi)) | ((with_reducible refine gate_dst (N := 15) rfl ?_); (try (refine gate_guard (by rfl) ?_; dsimp only)); refine Kd.R_lit (Kd.int .i64) _ 3 ?hg (N := 15) ?hd (xs := ([1] : List Int)) (inner := [.int .i64 1]) (ok := fun _ => True) (okp := fun _ => True) ?hr ?hp (fun _ hk => hk) trivial (Below.refl _ _) (Nat.le_refl _) (by simp) ?_; (case hd => rfl); (case hg => rfl); (case hr => first | (go_simp; done) | (go_simp; rfl)); (case hp => exact (Reps.one (show Kd.M (Kd.int .i64) _ _ _ 1 [.int .i64 1] from rfl) (Reps.none _ _))); intro v361 w68 ho69 hb hg_ hnew_; clear hg_ hnew_; (first | rw [← Ny360.out] at ho69 | (simp only [Int.reduceToNat] at ho69; rw [← Ny360.out] at ho69)); have n0_ := Aside0.mk (Kd.R_lower ho69 (below_size (by repeat (first | (with_reducible first | exact HB.out | apply below_alloc | apply pw_below_drewN | apply below_drew1) | exact HB.out)))); have n1_ := Aside0.mk (below_step (by repeat (first | (with_reducible first | exact HB.out | apply below_alloc | apply pw_below_drewN | apply below_drew1) | exact HB.out)) hb); clear HB; have HO362 := n0_; have HB := n1_; clear n0_ n1_; clear hb ho69) | ((with_reducible refine gate_builtin (b := .append) (xs := #[.tmp 15, .tmp 16]) rfl ?_); (try (refine gate_guard (by rfl) ?_; dsimp only)); at_builtin; refine Kd.R_append_rows (Kd.int .i64) (w0 := w) w.heap.size rfl (.tmp 15) (.tmp 16) 22 3 (.int .i64 0) 8 rfl Try.underlying22 info3 rfl (by decide) (by omega) v361 y360 l0 _ _ _ (fun _ => True) (fun _ => False) rfl rfl ?aO ?aR (fun _ _ h => h) (fun _ h => h.elim) ?aF ?aB ?aS ?aL ?_; (case aR => repeat (first | exact (Kd.C_below HR0.out HB.out) | (with_reducible refine Kd.C_alloc ?_ _) | (with_reducible refine Kd.C_drewN ?_ _) | (with_reducible refine Kd.C_drew ?_))); (case aB => exact (by repeat (first | (with_reducible first | exact HB.out | apply below_alloc | apply pw_below_drewN | apply below_drew1) | exact HB.out))); (case aF => exact (fun _ _ => trivial)); (case aO => exact (by (with_reducible repeat (first | apply Kd.R_alloc | apply Kd.R_drewN | apply Kd.R_drew)); exact HO362.out)); (case aS => exact (below_size (by repeat (first | (with_reducible first | exact HB.out | apply below_alloc | apply pw_below_drewN | apply below_drew1) | exact HB.out)))); (case aL => have := LMc6.out; omega); intro v364 w70 ho hb hg hat; rw [← Ny363.out] at ho; have n0_ := Aside0.mk (hb); have n1_ := Aside0.mk (ho); clear HB; clear HO362; have HB := n0_; have HO365 := n1_; clear n0_ n1_; clear ho hb hg hat) | ((with_reducible refine gate_dst (N := 18) rfl ?_); (try (refine gate_guard (by rfl) ?_; dsimp only)); refine Kd.R_lit (Kd.int .i64) _ 3 ?hg (N := 18) ?hd (xs := ([] : List Int)) (inner := []) (ok := fun _ => True) (okp := fun _ => True) ?hr ?hp (fun _ hk => hk) trivial (Below.refl _ _) (Nat.le_refl _) (by simp) ?_; (case hd => rfl); (case hg => rfl); (case hr => first | (go_simp; done) | (go_simp; rfl)); (case hp => exact (Reps.none _ _)); intro v367 w71 ho72 hb hg_ hnew_; clear hg_ hnew_; (first | rw [← Ny366.out] at ho72 | (simp only [Int.reduceToNat] at ho72; rw [← Ny366.out] at ho72)); have n0_ := Aside0.mk (Kd.R_elder' (by (with_reducible repeat (first | apply Kd.R_alloc | apply Kd.R_drewN | apply Kd.R_drew)); exact HO365.out) (Kd.R_base ho72) hb); have n1_ := Aside0.mk (Kd.R_lower (Kd.R_new' ho72 (Kd.R_lt (by (with_reducible repeat (first | apply Kd.R_alloc | apply Kd.R_drewN | apply Kd.R_drew)); exact HO365.out))) (below_size (by repeat (first | (with_reducible first | exact HB.out | apply below_alloc | apply pw_below_drewN | apply below_drew1) | exact HB.out)))); have n2_ := Aside0.mk (below_step (by repeat (first | (with_reducible first | exact HB.out | apply below_alloc | apply pw_below_drewN | apply below_drew1) | exact HB.out)) hb); clear HO365; clear HB; have HO365 := n0_; have HO368 := n1_; have HB := n2_; clear n0_ n1_ n2_; clear hb ho72) | ((with_reducible refine gate_builtin (b := .append) (xs := #[.tmp 18, .tmp 19]) rfl ?_); (try (refine gate_guard (by rfl) ?_; dsimp only)); at_builtin; refine Kd.R_append_rows (Kd.int .i64) (w0 := w) w.heap.size rfl (.tmp 18) (.tmp 19) 22 3 (.int .i64 0) 8 rfl Try.underlying22 info3 rfl (by decide) (by omega) v367 y366 l0 _ _ _ (fun k_ => some k_ ≠ (v364 : Value).ownBlock) (fun _ => False) rfl rfl ?aO ?aR (fun _ _ h => h) (fun _ h => h.elim) ?aF ?aB ?aS ?aL ?_; (case aR => repeat (first | exact (Kd.C_below HR0.out HB.out) | (with_reducible refine Kd.C_alloc ?_ _) | (with_reducible refine Kd.C_drewN ?_ _) | (with_reducible refine Kd.C_drew ?_))); (case aB => exact (by repeat (first | (with_reducible first | exact HB.out | apply below_alloc | apply pw_below_drewN | apply below_drew1) | exact HB.out))); (case aF => exact (fun k_ hk => Kd.fresh' (Kd.R_lt (by (with_reducible repeat (first | apply Kd.R_alloc | apply Kd.R_drewN | apply Kd.R_drew)); exact HO365.out)) k_ hk)); (case aO => exact (by (with_reducible repeat (first | apply Kd.R_alloc | apply Kd.R_drewN | apply Kd.R_drew)); exact Kd.R_mono HO368.out (fun _ hk => hk.2))); (case aS => exact (below_size (by repeat (first | (with_reducible first | exact HB.out | apply below_alloc | apply pw_below_drewN | apply below_drew1) | exact HB.out)))); (case aL => have := LMc7.out; omega); intro v370 w73 ho hb hg hat; rw [← Ny369.out] at ho; have n0_ := Aside0.mk (Kd.R_after (ok := (fun _ => True)) (by (with_reducible repeat (first | apply Kd.R_alloc | apply Kd.R_drewN | apply Kd.R_drew)); exact HO365.out) hg hat); have n1_ := Aside0.mk (hb); have n2_ := Aside0.mk (ho); clear HO365; clear HB; clear HO368; have HO365 := n0_; have HB := n1_; have HO371 := n2_; clear n0_ n1_ n2_; clear ho hb hg hat) | ((with_reducible refine gate_builtin (b := .append) (xs := #[.tmp 20, .tmp 22]) rfl ?_); (try (refine gate_guard (by rfl) ?_; dsimp only)); at_builtin; refine Kd.R_append (Kd.int .i64) (w0 := w) w.heap.size rfl (.tmp 20) (.tmp 22) 22 3 (.int .i64 0) 8 rfl Try.underlying22 info3 rfl (by decide) (by omega) v370 y369 a1 [.int .i64 a1] (fun k_ => some k_ ≠ (v364 : Value).ownBlock) (fun _ => False) rfl rfl ?aP (fun _ hk => hk.elim) ?aF ?aO ?aB ?aS ?aL ?_; (case aP => exact rfl); (case aB => exact (by repeat (first | (with_reducible first | exact HB.out | apply below_alloc | apply pw_below_drewN | apply below_drew1) | exact HB.out))); (case aF => exact (fun k_ hk => Kd.fresh' (Kd.R_lt (by (with_reducible repeat (first | apply Kd.R_alloc | apply Kd.R_drewN | apply Kd.R_drew)); exact HO365.out)) k_ hk)); (case aO => exact (by (with_reducible repeat (first | apply Kd.R_alloc | apply Kd.R_drewN | apply Kd.R_drew)); exact HO371.out)); (case aS => exact (below_size (by repeat (first | (with_reducible first | exact HB.out | apply below_alloc | apply pw_below_drewN | apply below_drew1) | exact HB.out)))); (case aL => have := LMc8.out; omega); intro v373 w74 ho hb hg hat; rw [← Ny372.out] at ho; have n0_ := Aside0.mk (Kd.R_after (ok := (fun _ => True)) (by (with_reducible repeat (first | apply Kd.R_alloc | apply Kd.R_drewN | apply Kd.R_drew)); exact HO365.out) hg hat); have n1_ := Aside0.mk (hb); have n2_ := Aside0.mk (ho); clear HO365; clear HB; clear HO371; have HO365 := n0_; have HB := n1_; have HO374 := n2_; clear n0_ n1_ n2_; clear ho hb hg hat) | ((with_reducible refine gate_callee (f := 18) rfl ?_); refine goesL_ (some 25) rfl rfl Try.func18 (by kernel_rfl) rfl #[.slice A0 l0.length c0] rfl (by (try simp only [List.map_toArray, List.map_cons, List.map_nil]); first | done | rfl | (simp only [List.length_drop, List.length_take]; rfl)) ?_; (with_reducible refine (shape_Check.calls k _ _ l0 false _ ?side1 ?side2 A9.out).mono ?_); (case side1 => repeat (first | exact (Kd.C_below HR0.out HB.out) | (with_reducible refine Kd.C_alloc ?_ _) | (with_reducible refine Kd.C_drewN ?_ _) | (with_reducible refine Kd.C_drew ?_))); (case side2 => exact HC0.out); rintro e w' ⟨rfl, ⟨nd, rfl⟩⟩; refine ⟨_, rfl, ?_⟩) | (go_at_call 20; (with_reducible refine (shape_Size.calls k _ _ l0 t376 _ ?side1 ?side2 A55.out).mono ?_); (case side1 => repeat (first | exact (Kd.C_below HR0.out (by repeat (first | (with_reducible first | exact HB.out | apply below_alloc | apply pw_below_drewN | apply below_drew1) | exact HB.out))) | (with_reducible refine Kd.C_alloc ?_ _) | (with_reducible refine Kd.C_drewN ?_ _) | (with_reducible refine Kd.C_drew ?_))); (case side2 => exact HC0.out); rintro e w' ⟨rfl, ⟨nd, rfl⟩⟩))
                go_ret
                exact ⟨by first | rfl | (simp [errW_none, errW_some] <;> rfl) | (simp [*, errW_none, errW_some] <;> rfl), by repeat (first | (with_reducible first | exact HB.out | apply below_alloc | apply pw_below_drewN | apply below_drew1) | exact HB.out)⟩
            · replace c54 := Bool.eq_false_iff.mpr c54
              subst c54
              have H1 : (some false) = some r := by rw [if_neg (show ¬ (false = true) by decide)] at H; exact H
              clear H
              have H := H1
              clear H1
              obtain rfl := Option.some.inj H
              go_enter Try.func7, Try.ntmps7
              go_wp2_with (first | ((with_reducible refine gate_callee (f := 10) rfl ?_); refine goesL_ (some 10) rfl rfl Try.func10 (by kernel_rfl) rfl #[] rfl (by (try simp only [List.map_toArray, List.map_cons, List.map_nil]); first | done | rfl | (simp only [List.length_drop, List.length_take]; rfl)) ?_; (with_reducible refine (fullerlaw02_awake.calls k  false _ A3.out).mono ?_); rintro e w75 ⟨rfl, hb⟩; refine ⟨_, rfl, ?_⟩; have n0_ := Aside0.mk (below_step (by repeat (first | (with_reducible first | exact HB.out | apply below_alloc | apply pw_below_drewN | apply below_drew1) | exact HB.out)) hb); clear HB; have HB := n0_; clear n0_; (try clear hb); (try clear hb2); (try clear hk); (try clear hi)) | ((with_reducible refine gate_dst (N := 15) rfl ?_); (try (refine gate_guard (by rfl) ?_; dsimp only)); refine Kd.R_lit (Kd.int .i64) _ 3 ?hg (N := 15) ?hd (xs := ([1] : List Int)) (inner := [.int .i64 1]) (ok := fun _ => True) (okp := fun _ => True) ?hr ?hp (fun _ hk => hk) trivial (Below.refl _ _) (Nat.le_refl _) (by simp) ?_; (case hd => rfl); (case hg => rfl); (case hr => first | (go_simp; done) | (go_simp; rfl)); (case hp => exact (Reps.one (show Kd.M (Kd.int .i64) _ _ _ 1 [.int .i64 1] from rfl) (Reps.none _ _))); intro v361 w76 ho77 hb hg_ hnew_; clear hg_ hnew_; (first | rw [← Ny360.out] at ho77 | (simp only [Int.reduceToNat] at ho77; rw [← Ny360.out] at ho77)); have n0_ := Aside0.mk (Kd.R_lower ho77 (below_size (by repeat (first | (with_reducible first | exact HB.out | apply below_alloc | apply pw_below_drewN | apply below_drew1) | exact HB.out)))); have n1_ := Aside0.mk (below_step (by repeat (first | (with_reducible first | exact HB.out | apply below_alloc | apply pw_below_drewN | apply below_drew1) | exact HB.out)) hb); clear HB; have HO362 := n0_; have HB := n1_; clear n0_ n1_; clear hb ho77) | ((with_reducible refine gate_builtin (b := .append) (xs := #[.tmp 15, .tmp 16]) rfl ?_); (try (refine gate_guard (by rfl) ?_; dsimp only)); at_builtin; refine Kd.R_append_rows (Kd.int .i64) (w0 := w) w.heap.size rfl (.tmp 15) (.tmp 16) 22 3 (.int .i64 0) 8 rfl Try.underlying22 info3 rfl (by decide) (by omega) v361 y360 l0 _ _ _ (fun _ => True) (fun _ => False) rfl rfl ?aO ?aR (fun _ _ h => h) (fun _ h => h.elim) ?aF ?aB ?aS ?aL ?_; (case aR => repeat (first | exact (Kd.C_below HR0.out HB.out) | (with_reducible refine Kd.C_alloc ?_ _) | (with_reducible refine Kd.C_drewN ?_ _) | (with_reducible refine Kd.C_drew ?_))); (case aB => exact (by repeat (first | (with_reducible first | exact HB.out | apply below_alloc | apply pw_below_drewN | apply below_drew1) | exact HB.out))); (case aF => exact (fun _ _ => trivial)); (case aO => exact (by (with_reducible repeat (first | apply Kd.R_alloc | apply Kd.R_drewN | apply Kd.R_drew)); exact HO362.out)); (case aS => exact (below_size (by repeat (first | (with_reducible first | exact HB.out | apply below_alloc | apply pw_below_drewN | apply below_drew1) | exact HB.out)))); (case aL => have := LMc6.out; omega); intro v364 w78 ho hb hg hat; rw [← Ny363.out] at ho; have n0_ := Aside0.mk (hb); have n1_ := Aside0.mk (ho); clear HB; clear HO362; have HB := n0_; have HO365 := n1_; clear n0_ n1_; clear ho hb hg hat) | ((with_reducible refine gate_dst (N := 18) rfl ?_); (try (refine gate_guard (by rfl) ?_; dsimp only)); refine Kd.R_lit (Kd.int .i64) _ 3 ?hg (N := 18) ?hd (xs := ([] : List Int)) (inner := []) (ok := fun _ => True) (okp := fun _ => True) ?hr ?hp (fun _ hk => hk) trivial (Below.refl _ _) (Nat.le_refl _) (by simp) ?_; (case hd => rfl); (case hg => rfl); (case hr => first | (go_simp; done) | (go_simp; rfl)); (case hp => exact (Reps.none _ _)); intro v367 w79 ho80 hb hg_ hnew_; clear hg_ hnew_; (first | rw [← Ny366.out] at ho80 | (simp only [Int.reduceToNat] at ho80; rw [← Ny366.out] at ho80)); have n0_ := Aside0.mk (Kd.R_elder' (by (with_reducible repeat (first | apply Kd.R_alloc | apply Kd.R_drewN | apply Kd.R_drew)); exact HO365.out) (Kd.R_base ho80) hb); have n1_ := Aside0.mk (Kd.R_lower (Kd.R_new' ho80 (Kd.R_lt (by (with_reducible repeat (first | apply Kd.R_alloc | apply Kd.R_drewN | apply Kd.R_drew)); exact HO365.out))) (below_size (by repeat (first | (with_reducible first | exact HB.out | apply below_alloc | apply pw_below_drewN | apply below_drew1) | exact HB.out)))); have n2_ := Aside0.mk (below_step (by repeat (first | (with_reducible first | exact HB.out | apply below_alloc | apply pw_below_drewN | apply below_drew1) | exact HB.out)) hb); clear HO365; clear HB; have HO365 := n0_; have HO368 := n1_; have HB := n2_; clear n0_ n1_ n2_; clear hb ho80) | ((with_reducible refine gate_builtin (b := .append) (xs := #[.tmp 18, .tmp 19]) rfl ?_); (try (refine gate_guard (by rfl) ?_; dsimp only)); at_builtin; refine Kd.R_append_rows (Kd.int .i64) (w0 := w) w.heap.size rfl (.tmp 18) (.tmp 19) 22 3 (.int .i64 0) 8 rfl Try.underlying22 info3 rfl (by decide) (by omega) v367 y366 l0 _ _ _ (fun k_ => some k_ ≠ (v364 : Value).ownBlock) (fun _ => False) rfl rfl ?aO ?aR (fun _ _ h => h) (fun _ h => h.elim) ?aF ?aB ?aS ?aL ?_; (case aR => repeat (first | exact (Kd.C_below HR0.out HB.out) | (with_reducible refine Kd.C_alloc ?_ _) | (with_reducible refine Kd.C_drewN ?_ _) | (with_reducible refine Kd.C_drew ?_))); (case aB => exact (by repeat (first | (with_reducible first | exact HB.out | apply below_alloc | apply pw_below_drewN | apply below_drew1) | exact HB.out))); (case aF => exact (fun k_ hk => Kd.fresh' (Kd.R_lt (by (with_reducible repeat (first | apply Kd.R_alloc | apply Kd.R_drewN | apply Kd.R_drew)); exact HO365.out)) k_ hk)); (case aO => exact (by (with_reducible repeat (first | apply Kd.R_alloc | apply Kd.R_drewN | apply Kd.R_drew)); exact Kd.R_mono HO368.out (fun _ hk => hk.2))); (case aS => exact (below_size (by repeat (first | (with_reducible first | exact HB.out | apply below_alloc | apply pw_below_drewN | apply below_drew1) | exact HB.out)))); (case aL => have := LMc7.out; omega); intro v370 w81 ho hb hg hat; rw [← Ny369.out] at ho; have n0_ := Aside0.mk (Kd.R_after (ok := (fun _ => True)) (by (with_reducible repeat (first | apply Kd.R_alloc | apply Kd.R_drewN | apply Kd.R_drew)); exact HO365.out) hg hat); have n1_ := Aside0.mk (hb); have n2_ := Aside0.mk (ho); clear HO365; clear HB; clear HO368; have HO365 := n0_; have HB := n1_; have HO371 := n2_; clear n0_ n1_ n2_; clear ho hb hg hat) | ((with_reducible refine gate_builtin (b := .append) (xs := #[.tmp 20, .tmp 22]) rfl ?_); (try (refine gate_guard (by rfl) ?_; dsimp only)); at_builtin; refine Kd.R_append (Kd.int .i64) (w0 := w) w.heap.size rfl (.tmp 20) (.tmp 22) 22 3 (.int .i64 0) 8 rfl Try.underlying22 info3 rfl (by decide) (by omega) v370 y369 a1 [.int .i64 a1] (fun k_ => some k_ ≠ (v364 : Value).ownBlock) (fun _ => False) rfl rfl ?aP (fun _ hk => hk.elim) ?aF ?aO ?aB ?aS ?aL ?_; (case aP => exact rfl); (case aB => exact (by repeat (first | (with_reducible first | exact HB.out | apply below_alloc | apply pw_below_drewN | apply below_drew1) | exact HB.out))); (case aF => exact (fun k_ hk => Kd.fresh' (Kd.R_lt (by (with_reducible repeat (first | apply Kd.R_alloc | apply Kd.R_drewN | apply Kd.R_drew)); exact HO365.out)) k_ hk)); (case aO => exact (by (with_reducible repeat (first | apply Kd.R_alloc | apply Kd.R_drewN | apply Kd.R_drew)); exact HO371.out)); (case aS => exact (below_size (by repeat (first | (with_reducible first | exact HB.out | apply below_alloc | apply pw_below_drewN | apply below_drew1) | exact HB.out)))); (case aL => have := LMc8.out; omega); intro v373 w82 ho hb hg hat; rw [← Ny372.out] at ho; have n0_ := Aside0.mk (Kd.R_after (ok := (fun _ => True)) (by (with_reducible repeat (first | apply Kd.R_alloc | apply Kd.R_drewN | apply Kd.R_drew)); exact HO365.out) hg hat); have n1_ := Aside0.mk (hb); have n2_ := Aside0.mk (ho); clear HO365; clear HB; clear HO371; have HO365 := n0_; have HB := n1_; have HO374 := n2_; clear n0_ n1_ n2_; clear ho hb hg hat) | ((with_reducible refine gate_callee (f := 18) rfl ?_); refine goesL_ (some 25) rfl rfl Try.func18 (by kernel_rfl) rfl #[.slice A0 l0.length c0] rfl (by (try simp only [List.map_toArray, List.map_cons, List.map_nil]); first | done | rfl | (simp only [List.length_drop, List.length_take]; rfl)) ?_; (with_reducible refine (shape_Check.calls k _ _ l0 false _ ?side1 ?side2 A9.out).mono ?_); (case side1 => repeat (first | exact (Kd.C_below HR0.out HB.out) | (with_reducible refine Kd.C_alloc ?_ _) | (with_reducible refine Kd.C_drewN ?_ _) | (with_reducible refine Kd.C_drew ?_))); (case side2 => exact HC0.out); rintro e w' ⟨rfl, ⟨nd, rfl⟩⟩; refine ⟨_, rfl, ?_⟩))
              go_ret
              exact ⟨by first | rfl | (simp [errW_none, errW_some] <;> rfl) | (simp [*, errW_none, errW_some] <;> rfl), by repeat (first | (with_reducible first | exact HB.out | apply below_alloc | apply pw_below_drewN | apply below_drew1) | exact HB.out)⟩
        · rw [if_neg c8] at H
          exact absurd H (by simp)
      · rw [if_neg c7] at H
        exact absurd H (by simp)
    · rw [if_neg c6] at H
      exact absurd H (by simp)

/-- THE ONE PURE STATEMENT of fullerlaw02_ShapeSizes: yours. -/
def fullerlaw02_ShapeSizes.Pure : Prop := ∀ (l0 : List Int) (a1 : Int), l0.length ≤ maxLen → l0.length * 8 ≤ 140737488351232 → (∀ x ∈ l0, (Lit.int .i64 x).wf = true) → (Lit.int .i64 a1).wf = true → ∃ k, fullerlaw02_ShapeSizes.f k l0 a1 = some true
theorem fullerlaw02_ShapeSizes.walk (P : fullerlaw02_ShapeSizes.Pure) (a0 : Option Addr) (len0 cap0 : Nat) (z0 : List Int) (a1 : Int) (w : World) (w0 : (a0 = none ∧ len0 = 0 ∧ cap0 = 0 ∧ z0 = []) ∨ ∃ x, a0 = some x ∧ len0 ≤ cap0 ∧ cap0 ≤ maxLen ∧ z0.length = cap0 ∧ (∀ i, i < z0.length → w.cell? (x.add i) = some (.int .i64 (z0.getD i 0))) ∧ ∀ n ∈ z0, (Lit.int .i64 n).wf = true) (y0 : len0 * 8 ≤ 140737488351232) (w1 : (Lit.int .i64 a1).wf = true) :
    Calls Try.prog 7 #[.slice a0 len0 cap0, .int .i64 a1] w fun e w' => e = .returned (.bool true) ∧ Below w.heap.size w w' := by
  obtain ⟨l0, rfl, hr0, hm0, hw0, hc0⟩ := ReadsInt.ofRowC w0
  obtain ⟨k, h⟩ := P l0 a1 hm0 y0 hw0 w1
  refine (fullerlaw02_ShapeSizes.calls k _ _ l0 a1 true w (Kd.C_of_reads (d := (0 : Int)) (h1 := fun _ => rfl) hr0) hc0 h).mono ?_
  rintro e w' ⟨rfl, hd⟩
  exact ⟨rfl, hd⟩

end Go.Proofs.Ytgmmbakfaoallaa.A
