/- Lean functions that answer as the Go functions do, and the proofs that they do; no conditions. Written by this session's own driver: a scratch copy of the kit's print with the session's additions (wip/xprint). -/
import Derived.Test.YtgmmbakfaoallaaAx0
import Derived.Test.YtgmmbakfaoallaaAx1
import Derived.Test.YtgmmbakfaoallaaAx6
import Derived.Test.YtgmmbakfaoallaaAx7
import Derived.Test.YtgmmbakfaoallaaAx8
import Derived.Test.YtgmmbakfaoallaaAx9
namespace Go.Proofs.Ytgmmbakfaoallaa.A
open Go.RowKit Go.Proofs.YtgmmbakfaoallaaW.PrintWords Go.Proofs.YtgmmbakfaoallaaW.PrintLast Go.Proofs.YtgmmbakfaoallaaW.PrintMore
attribute [local go_sem] max2_int min2_int max_two min_two max_three min_three max_four min_four   -- for this text's walks alone
set_option linter.unusedVariables false
set_option linter.unusedSimpArgs false

/-! ### fullerlaw02_ShapeJoins: function 5 -/
mutual
def fullerlaw02_ShapeJoins.j0 : Nat → List Int → List Int → Bool → Bool → Option (Bool)
  | 0, _, _, _, _ => none
  | k + 1, x0, x1, x5, x23 => if x23 = true then (some x5) else ((shape_Join.f k x0 x1).bind fun bt311 => ((shape_Join.f k x1 x0).bind fun bt315 => ((shape_Join.f k x0 x0).bind fun bt319 => ((shape_Join.f k ([] : List Int) x0).bind fun bt323 => ((shape_Check.f k x0).bind fun t327 => (if t327 = true then (if bt319.2 = 0 then (if bt323.2 = 0 then ((fullerref02_Same.f k bt319.1 x0).bind fun t328 => (if t328 = true then ((fullerref02_Same.f k bt323.1 x0).bind fun t329 => (if t329 = true then (fullerlaw02_ShapeJoins.j1 k x0 x1 x5 bt311.1 bt311.2 bt315.1 bt315.2 true) else ((shape_Check.f k x0).bind fun t330 => (if t330 = true then (fullerlaw02_ShapeJoins.j1 k x0 x1 x5 bt311.1 bt311.2 bt315.1 bt315.2 false) else (if bt319.2 = 20 then (fullerlaw02_ShapeJoins.j1 k x0 x1 x5 bt311.1 bt311.2 bt315.1 bt315.2 (bt323.2 == 20)) else (fullerlaw02_ShapeJoins.j1 k x0 x1 x5 bt311.1 bt311.2 bt315.1 bt315.2 false)))))) else ((shape_Check.f k x0).bind fun t331 => (if t331 = true then (fullerlaw02_ShapeJoins.j1 k x0 x1 x5 bt311.1 bt311.2 bt315.1 bt315.2 false) else (if bt319.2 = 20 then (fullerlaw02_ShapeJoins.j1 k x0 x1 x5 bt311.1 bt311.2 bt315.1 bt315.2 (bt323.2 == 20)) else (fullerlaw02_ShapeJoins.j1 k x0 x1 x5 bt311.1 bt311.2 bt315.1 bt315.2 false)))))) else ((shape_Check.f k x0).bind fun t332 => (if t332 = true then (fullerlaw02_ShapeJoins.j1 k x0 x1 x5 bt311.1 bt311.2 bt315.1 bt315.2 false) else (if bt319.2 = 20 then (fullerlaw02_ShapeJoins.j1 k x0 x1 x5 bt311.1 bt311.2 bt315.1 bt315.2 (bt323.2 == 20)) else (fullerlaw02_ShapeJoins.j1 k x0 x1 x5 bt311.1 bt311.2 bt315.1 bt315.2 false))))) else ((shape_Check.f k x0).bind fun t333 => (if t333 = true then (fullerlaw02_ShapeJoins.j1 k x0 x1 x5 bt311.1 bt311.2 bt315.1 bt315.2 false) else (if bt319.2 = 20 then (fullerlaw02_ShapeJoins.j1 k x0 x1 x5 bt311.1 bt311.2 bt315.1 bt315.2 (bt323.2 == 20)) else (fullerlaw02_ShapeJoins.j1 k x0 x1 x5 bt311.1 bt311.2 bt315.1 bt315.2 false))))) else ((shape_Check.f k x0).bind fun t334 => (if t334 = true then (fullerlaw02_ShapeJoins.j1 k x0 x1 x5 bt311.1 bt311.2 bt315.1 bt315.2 false) else (if bt319.2 = 20 then (fullerlaw02_ShapeJoins.j1 k x0 x1 x5 bt311.1 bt311.2 bt315.1 bt315.2 (bt323.2 == 20)) else (fullerlaw02_ShapeJoins.j1 k x0 x1 x5 bt311.1 bt311.2 bt315.1 bt315.2 false))))))))))
def fullerlaw02_ShapeJoins.j1 : Nat → List Int → List Int → Bool → List Int → Int → List Int → Int → Bool → Option (Bool)
  | 0, _, _, _, _, _, _, _, _ => none
  | k + 1, x0, x1, x5, x6, x7, x8, x9, x14 => if x7 = 0 then (if x5 = true then (if x9 = 0 then (if x14 = true then ((fullerref02_Same.f k x6 x8).bind fun t337 => (if t337 = true then ((shape_Fits.f k x0 x6).bind fun t338 => (if t338 = true then ((shape_Fits.f k x1 x6).bind fun t339 => (if t339 = true then ((shape_Check.f k x6).bind fun t340 => (some t340)) else (some false))) else (some false))) else (some false))) else (some false)) else (some false)) else (some false)) else (if x5 = true then (if x9 = x7 then (if x14 = true then ((shape_Fits.f k x0 x1).bind fun t335 => (if t335 = true then (some false) else ((shape_Fits.f k x1 x0).bind fun t336 => (some (!t336))))) else (some false)) else (some false)) else (some false))
end
def fullerlaw02_ShapeJoins.f (k : Nat) (l0 : List Int) (l1 : List Int) : Option (Bool) := (fullerlaw02_awake.f k).bind fun t310 => (if (l0.length : Int) > 100 then (fullerlaw02_ShapeJoins.j0 k l0 l1 t310 true) else (fullerlaw02_ShapeJoins.j0 k l0 l1 t310 (decide ((l1.length : Int) > 100))))
theorem fullerlaw02_ShapeJoins.mono_l : ∀ k, (∀ y0 y1 y2 y3, LeO (fullerlaw02_ShapeJoins.j0 k y0 y1 y2 y3) (fullerlaw02_ShapeJoins.j0 (k + 1) y0 y1 y2 y3)) ∧ (∀ y0 y1 y2 y3 y4 y5 y6 y7, LeO (fullerlaw02_ShapeJoins.j1 k y0 y1 y2 y3 y4 y5 y6 y7) (fullerlaw02_ShapeJoins.j1 (k + 1) y0 y1 y2 y3 y4 y5 y6 y7))
  | 0 => ⟨fun _ _ _ _ r h => by simp [fullerlaw02_ShapeJoins.j0] at h, fun _ _ _ _ _ _ _ _ r h => by simp [fullerlaw02_ShapeJoins.j1] at h⟩
  | k + 1 => by
    obtain ⟨ih0, ih1⟩ := fullerlaw02_ShapeJoins.mono_l k
    refine ⟨?_, ?_⟩
    · intro y0 y1 y2 y3
      unfold fullerlaw02_ShapeJoins.j0
      repeat' first
      | (with_reducible exact ih0 _ _ _ _)
      | (with_reducible exact ih1 _ _ _ _ _ _ _ _)
      | (with_reducible exact fullerlaw02_awake.mono _)
      | (with_reducible exact fullerref02_Same.mono _ _ _)
      | (with_reducible exact shape_Check.mono _ _)
      | (with_reducible exact shape_Fits.mono _ _ _)
      | (with_reducible exact shape_Join.mono _ _ _)
      | (with_reducible exact LeO.refl _)
      | (with_reducible exact LeO.none _)
      | (with_reducible refine LeO.ite ?_ ?_)
      | (with_reducible refine LeO.bind ?_ (fun _ => ?_))
      | exact ih0 _ _ _ _
      | exact ih1 _ _ _ _ _ _ _ _
      | exact fullerlaw02_awake.mono _
      | exact fullerref02_Same.mono _ _ _
      | exact shape_Check.mono _ _
      | exact shape_Fits.mono _ _ _
      | exact shape_Join.mono _ _ _
      | exact LeO.none _
      | refine LeO.ite ?_ ?_
      | refine LeO.bind ?_ (fun _ => ?_)
    · intro y0 y1 y2 y3 y4 y5 y6 y7
      unfold fullerlaw02_ShapeJoins.j1
      repeat' first
      | (with_reducible exact ih0 _ _ _ _)
      | (with_reducible exact ih1 _ _ _ _ _ _ _ _)
      | (with_reducible exact fullerlaw02_awake.mono _)
      | (with_reducible exact fullerref02_Same.mono _ _ _)
      | (with_reducible exact shape_Check.mono _ _)
      | (with_reducible exact shape_Fits.mono _ _ _)
      | (with_reducible exact shape_Join.mono _ _ _)
      | (with_reducible exact LeO.refl _)
      | (with_reducible exact LeO.none _)
      | (with_reducible refine LeO.ite ?_ ?_)
      | (with_reducible refine LeO.bind ?_ (fun _ => ?_))
      | exact ih0 _ _ _ _
      | exact ih1 _ _ _ _ _ _ _ _
      | exact fullerlaw02_awake.mono _
      | exact fullerref02_Same.mono _ _ _
      | exact shape_Check.mono _ _
      | exact shape_Fits.mono _ _ _
      | exact shape_Join.mono _ _ _
      | exact LeO.none _
      | refine LeO.ite ?_ ?_
      | refine LeO.bind ?_ (fun _ => ?_)
theorem fullerlaw02_ShapeJoins.mono : ∀ a0 a1 k, LeO (fullerlaw02_ShapeJoins.f k a0 a1) (fullerlaw02_ShapeJoins.f (k + 1) a0 a1) := by
  intro a0 a1 k
  obtain ⟨ih0, ih1⟩ := fullerlaw02_ShapeJoins.mono_l k
  unfold fullerlaw02_ShapeJoins.f
  repeat' first
      | (with_reducible exact ih0 _ _ _ _)
      | (with_reducible exact ih1 _ _ _ _ _ _ _ _)
      | (with_reducible exact fullerlaw02_awake.mono _)
      | (with_reducible exact fullerref02_Same.mono _ _ _)
      | (with_reducible exact shape_Check.mono _ _)
      | (with_reducible exact shape_Fits.mono _ _ _)
      | (with_reducible exact shape_Join.mono _ _ _)
      | (with_reducible exact LeO.refl _)
      | (with_reducible exact LeO.none _)
      | (with_reducible refine LeO.ite ?_ ?_)
      | (with_reducible refine LeO.bind ?_ (fun _ => ?_))
      | exact ih0 _ _ _ _
      | exact ih1 _ _ _ _ _ _ _ _
      | exact fullerlaw02_awake.mono _
      | exact fullerref02_Same.mono _ _ _
      | exact shape_Check.mono _ _
      | exact shape_Fits.mono _ _ _
      | exact shape_Join.mono _ _ _
      | exact LeO.none _
      | refine LeO.ite ?_ ?_
      | refine LeO.bind ?_ (fun _ => ?_)
set_option maxHeartbeats 8000000 in
set_option maxRecDepth 100000 in
theorem fullerlaw02_ShapeJoins.calls (k : Nat) (A0 : Option Addr) (c0 : Nat) (l0 : List Int) (A1 : Option Addr) (c1 : Nat) (l1 : List Int) (r : Bool) (w : World) (hr0 : Kd.C (Kd.int .i64) w A0 l0.length l0) (hc0 : l0.length ≤ c0) (hr1 : Kd.C (Kd.int .i64) w A1 l1.length l1) (hc1 : l1.length ≤ c1) (h : fullerlaw02_ShapeJoins.f k l0 l1 = some r) :
    Calls Try.prog 5 #[.slice A0 l0.length c0, .slice A1 l1.length c1] w fun e w' => e = .returned (.bool r) ∧ Below w.heap.size w w' := by
  have HR0 := Aside0.mk hr0
  have HC0 := Aside0.mk hc0
  clear hr0 hc0
  have HR1 := Aside0.mk hr1
  have HC1 := Aside0.mk hc1
  clear hr1 hc1
  have HB := Aside0.mk (Below.refl w.heap.size w)
  have H : ((fullerlaw02_awake.f k).bind fun t310 => (if (l0.length : Int) > 100 then (fullerlaw02_ShapeJoins.j0 k l0 l1 t310 true) else (fullerlaw02_ShapeJoins.j0 k l0 l1 t310 (decide ((l1.length : Int) > 100))))) = some r := h
  clear h
  replace H := Option.bind_eq_some_iff.mp H
  obtain ⟨t310, A30, H⟩ := H
  replace H : (if (l0.length : Int) > 100 then (fullerlaw02_ShapeJoins.j0 k l0 l1 t310 true) else (fullerlaw02_ShapeJoins.j0 k l0 l1 t310 (decide ((l1.length : Int) > 100)))) = some r := H
  have A3 := Aside0.mk A30
  clear A30
  have HC4 := Aside0.mk H
  clear H
  go_enter Try.func5, Try.ntmps5
  go_upto_region 2 with (first | ((with_reducible refine gate_callee (f := 10) rfl ?_); refine goesL_ (some 15) rfl rfl Try.func10 (by kernel_rfl) rfl #[] rfl (by (try simp only [List.map_toArray, List.map_cons, List.map_nil]); first | done | rfl | (simp only [List.length_drop, List.length_take]; rfl)) ?_; (with_reducible refine (fullerlaw02_awake.calls k  t310 _ A3.out).mono ?_); rintro e w5 ⟨rfl, hb⟩; refine ⟨_, rfl, ?_⟩; have n0_ := Aside0.mk (below_step (by repeat (first | (with_reducible first | exact HB.out | apply below_alloc | apply pw_below_drewN | apply below_drew1) | exact HB.out)) hb); clear HB; have HB := n0_; clear n0_; (try clear hb); (try clear hb2); (try clear hk); (try clear hi)))
  (try simp only [Act.put, List.setIfInBounds_toArray, List.set_cons_zero, List.set_cons_succ])
  go_cut [23] (fun v23 wc => ∃ (kq : Nat) (x23_3 : Bool), v23 = .bool x23_3 ∧ Aside0 (fullerlaw02_ShapeJoins.j0 kq l0 l1 t310 x23_3 = some r) ∧ Aside0 (kq ≤ k) ∧ Aside0 (Below w.heap.size w wc))
  case first =>
    have H := HC4.out
    clear HC4
    by_cases c6 : (l0.length : Int) > 100
    · rw [if_pos c6] at H
      have c6b0 : decide (100 < (l0.length : Int)) = true := decide_eq_true c6
      have c6b1 : decide (100 < l0.length) = true := decide_eq_true (by omega)
      clear c6
      (first | rw [c6b0] | (simp only [i64_w, i32_w]; rw [c6b0]) | skip)
      have H' := Aside0.mk H
      clear H
      go_wp2
      go_meet
      case rel => exact ⟨_, (true), (by first | rfl | (simp; done) | (simp [*]; done)), H', ⟨by first | omega | exact Nat.le_refl _⟩, ⟨by repeat (first | (with_reducible first | exact HB.out | apply below_alloc | apply pw_below_drewN | apply below_drew1) | exact HB.out)⟩⟩
    · rw [if_neg c6] at H
      have c6b0 : decide (100 < (l0.length : Int)) = false := decide_eq_false c6
      have c6b1 : decide (100 < l0.length) = false := decide_eq_false (by omega)
      clear c6
      (first | rw [c6b0] | (simp only [i64_w, i32_w]; rw [c6b0]) | skip)
      have H' := Aside0.mk H
      clear H
      go_wp2
      go_meet
      case rel => exact ⟨_, (decide ((l1.length : Int) > 100)), (by first | rfl | (simp; done) | (simp [*]; done)), H', ⟨by first | omega | exact Nat.le_refl _⟩, ⟨by repeat (first | (with_reducible first | exact HB.out | apply below_alloc | apply pw_below_drewN | apply below_drew1) | exact HB.out)⟩⟩
  case rest =>
    clear HC4
    try clear c1
    try clear p2
    try clear c5
    try clear c6
    try clear c6b0
    try clear c6b1
    obtain ⟨kq, x23_3, rfl, HA, HJ3, HB⟩ := hcut
    cases kq with
    | zero => exact absurd HA.out (by simp [fullerlaw02_ShapeJoins.j0])
    | succ kj3 =>
      have H := HA.out
      clear HA
      simp only [fullerlaw02_ShapeJoins.j0] at H
      by_cases c7 : x23_3 = true
      · subst c7
        have H1 : (some t310) = some r := by rw [if_pos rfl] at H; exact H
        clear H
        have H := H1
        clear H1
        obtain rfl := Option.some.inj H
        go_wp2
        go_ret
        exact ⟨by first | rfl | (simp [errW_none, errW_some] <;> rfl) | (simp [*, errW_none, errW_some] <;> rfl), by repeat (first | (with_reducible first | exact HB.out | apply below_alloc | apply pw_below_drewN | apply below_drew1) | exact HB.out)⟩
      · replace c7 := Bool.eq_false_iff.mpr c7
        subst c7
        have H1 : ((shape_Join.f kj3 l0 l1).bind fun bt311 => ((shape_Join.f kj3 l1 l0).bind fun bt315 => ((shape_Join.f kj3 l0 l0).bind fun bt319 => ((shape_Join.f kj3 ([] : List Int) l0).bind fun bt323 => ((shape_Check.f kj3 l0).bind fun t327 => (if t327 = true then (if bt319.2 = 0 then (if bt323.2 = 0 then ((fullerref02_Same.f kj3 bt319.1 l0).bind fun t328 => (if t328 = true then ((fullerref02_Same.f kj3 bt323.1 l0).bind fun t329 => (if t329 = true then (fullerlaw02_ShapeJoins.j1 kj3 l0 l1 t310 bt311.1 bt311.2 bt315.1 bt315.2 true) else ((shape_Check.f kj3 l0).bind fun t330 => (if t330 = true then (fullerlaw02_ShapeJoins.j1 kj3 l0 l1 t310 bt311.1 bt311.2 bt315.1 bt315.2 false) else (if bt319.2 = 20 then (fullerlaw02_ShapeJoins.j1 kj3 l0 l1 t310 bt311.1 bt311.2 bt315.1 bt315.2 (bt323.2 == 20)) else (fullerlaw02_ShapeJoins.j1 kj3 l0 l1 t310 bt311.1 bt311.2 bt315.1 bt315.2 false)))))) else ((shape_Check.f kj3 l0).bind fun t331 => (if t331 = true then (fullerlaw02_ShapeJoins.j1 kj3 l0 l1 t310 bt311.1 bt311.2 bt315.1 bt315.2 false) else (if bt319.2 = 20 then (fullerlaw02_ShapeJoins.j1 kj3 l0 l1 t310 bt311.1 bt311.2 bt315.1 bt315.2 (bt323.2 == 20)) else (fullerlaw02_ShapeJoins.j1 kj3 l0 l1 t310 bt311.1 bt311.2 bt315.1 bt315.2 false)))))) else ((shape_Check.f kj3 l0).bind fun t332 => (if t332 = true then (fullerlaw02_ShapeJoins.j1 kj3 l0 l1 t310 bt311.1 bt311.2 bt315.1 bt315.2 false) else (if bt319.2 = 20 then (fullerlaw02_ShapeJoins.j1 kj3 l0 l1 t310 bt311.1 bt311.2 bt315.1 bt315.2 (bt323.2 == 20)) else (fullerlaw02_ShapeJoins.j1 kj3 l0 l1 t310 bt311.1 bt311.2 bt315.1 bt315.2 false))))) else ((shape_Check.f kj3 l0).bind fun t333 => (if t333 = true then (fullerlaw02_ShapeJoins.j1 kj3 l0 l1 t310 bt311.1 bt311.2 bt315.1 bt315.2 false) else (if bt319.2 = 20 then (fullerlaw02_ShapeJoins.j1 kj3 l0 l1 t310 bt311.1 bt311.2 bt315.1 bt315.2 (bt323.2 == 20)) else (fullerlaw02_ShapeJoins.j1 kj3 l0 l1 t310 bt311.1 bt311.2 bt315.1 bt315.2 false))))) else ((shape_Check.f kj3 l0).bind fun t334 => (if t334 = true then (fullerlaw02_ShapeJoins.j1 kj3 l0 l1 t310 bt311.1 bt311.2 bt315.1 bt315.2 false) else (if bt319.2 = 20 then (fullerlaw02_ShapeJoins.j1 kj3 l0 l1 t310 bt311.1 bt311.2 bt315.1 bt315.2 (bt323.2 == 20)) else (fullerlaw02_ShapeJoins.j1 kj3 l0 l1 t310 bt311.1 bt311.2 bt315.1 bt315.2 false)))))))))) = some r := by rw [if_neg (show ¬ (false = true) by decide)] at H; exact H
        clear H
        have H := H1
        clear H1
        replace H := Option.bind_eq_some_iff.mp H
        obtain ⟨⟨t311, t312⟩, A80, H⟩ := H
        replace H : ((shape_Join.f kj3 l1 l0).bind fun bt315 => ((shape_Join.f kj3 l0 l0).bind fun bt319 => ((shape_Join.f kj3 ([] : List Int) l0).bind fun bt323 => ((shape_Check.f kj3 l0).bind fun t327 => (if t327 = true then (if bt319.2 = 0 then (if bt323.2 = 0 then ((fullerref02_Same.f kj3 bt319.1 l0).bind fun t328 => (if t328 = true then ((fullerref02_Same.f kj3 bt323.1 l0).bind fun t329 => (if t329 = true then (fullerlaw02_ShapeJoins.j1 kj3 l0 l1 t310 t311 t312 bt315.1 bt315.2 true) else ((shape_Check.f kj3 l0).bind fun t330 => (if t330 = true then (fullerlaw02_ShapeJoins.j1 kj3 l0 l1 t310 t311 t312 bt315.1 bt315.2 false) else (if bt319.2 = 20 then (fullerlaw02_ShapeJoins.j1 kj3 l0 l1 t310 t311 t312 bt315.1 bt315.2 (bt323.2 == 20)) else (fullerlaw02_ShapeJoins.j1 kj3 l0 l1 t310 t311 t312 bt315.1 bt315.2 false)))))) else ((shape_Check.f kj3 l0).bind fun t331 => (if t331 = true then (fullerlaw02_ShapeJoins.j1 kj3 l0 l1 t310 t311 t312 bt315.1 bt315.2 false) else (if bt319.2 = 20 then (fullerlaw02_ShapeJoins.j1 kj3 l0 l1 t310 t311 t312 bt315.1 bt315.2 (bt323.2 == 20)) else (fullerlaw02_ShapeJoins.j1 kj3 l0 l1 t310 t311 t312 bt315.1 bt315.2 false)))))) else ((shape_Check.f kj3 l0).bind fun t332 => (if t332 = true then (fullerlaw02_ShapeJoins.j1 kj3 l0 l1 t310 t311 t312 bt315.1 bt315.2 false) else (if bt319.2 = 20 then (fullerlaw02_ShapeJoins.j1 kj3 l0 l1 t310 t311 t312 bt315.1 bt315.2 (bt323.2 == 20)) else (fullerlaw02_ShapeJoins.j1 kj3 l0 l1 t310 t311 t312 bt315.1 bt315.2 false))))) else ((shape_Check.f kj3 l0).bind fun t333 => (if t333 = true then (fullerlaw02_ShapeJoins.j1 kj3 l0 l1 t310 t311 t312 bt315.1 bt315.2 false) else (if bt319.2 = 20 then (fullerlaw02_ShapeJoins.j1 kj3 l0 l1 t310 t311 t312 bt315.1 bt315.2 (bt323.2 == 20)) else (fullerlaw02_ShapeJoins.j1 kj3 l0 l1 t310 t311 t312 bt315.1 bt315.2 false))))) else ((shape_Check.f kj3 l0).bind fun t334 => (if t334 = true then (fullerlaw02_ShapeJoins.j1 kj3 l0 l1 t310 t311 t312 bt315.1 bt315.2 false) else (if bt319.2 = 20 then (fullerlaw02_ShapeJoins.j1 kj3 l0 l1 t310 t311 t312 bt315.1 bt315.2 (bt323.2 == 20)) else (fullerlaw02_ShapeJoins.j1 kj3 l0 l1 t310 t311 t312 bt315.1 bt315.2 false))))))))) = some r := H
        have A8 := Aside0.mk A80
        clear A80
        replace H := Option.bind_eq_some_iff.mp H
        obtain ⟨⟨t315, t316⟩, A90, H⟩ := H
        replace H : ((shape_Join.f kj3 l0 l0).bind fun bt319 => ((shape_Join.f kj3 ([] : List Int) l0).bind fun bt323 => ((shape_Check.f kj3 l0).bind fun t327 => (if t327 = true then (if bt319.2 = 0 then (if bt323.2 = 0 then ((fullerref02_Same.f kj3 bt319.1 l0).bind fun t328 => (if t328 = true then ((fullerref02_Same.f kj3 bt323.1 l0).bind fun t329 => (if t329 = true then (fullerlaw02_ShapeJoins.j1 kj3 l0 l1 t310 t311 t312 t315 t316 true) else ((shape_Check.f kj3 l0).bind fun t330 => (if t330 = true then (fullerlaw02_ShapeJoins.j1 kj3 l0 l1 t310 t311 t312 t315 t316 false) else (if bt319.2 = 20 then (fullerlaw02_ShapeJoins.j1 kj3 l0 l1 t310 t311 t312 t315 t316 (bt323.2 == 20)) else (fullerlaw02_ShapeJoins.j1 kj3 l0 l1 t310 t311 t312 t315 t316 false)))))) else ((shape_Check.f kj3 l0).bind fun t331 => (if t331 = true then (fullerlaw02_ShapeJoins.j1 kj3 l0 l1 t310 t311 t312 t315 t316 false) else (if bt319.2 = 20 then (fullerlaw02_ShapeJoins.j1 kj3 l0 l1 t310 t311 t312 t315 t316 (bt323.2 == 20)) else (fullerlaw02_ShapeJoins.j1 kj3 l0 l1 t310 t311 t312 t315 t316 false)))))) else ((shape_Check.f kj3 l0).bind fun t332 => (if t332 = true then (fullerlaw02_ShapeJoins.j1 kj3 l0 l1 t310 t311 t312 t315 t316 false) else (if bt319.2 = 20 then (fullerlaw02_ShapeJoins.j1 kj3 l0 l1 t310 t311 t312 t315 t316 (bt323.2 == 20)) else (fullerlaw02_ShapeJoins.j1 kj3 l0 l1 t310 t311 t312 t315 t316 false))))) else ((shape_Check.f kj3 l0).bind fun t333 => (if t333 = true then (fullerlaw02_ShapeJoins.j1 kj3 l0 l1 t310 t311 t312 t315 t316 false) else (if bt319.2 = 20 then (fullerlaw02_ShapeJoins.j1 kj3 l0 l1 t310 t311 t312 t315 t316 (bt323.2 == 20)) else (fullerlaw02_ShapeJoins.j1 kj3 l0 l1 t310 t311 t312 t315 t316 false))))) else ((shape_Check.f kj3 l0).bind fun t334 => (if t334 = true then (fullerlaw02_ShapeJoins.j1 kj3 l0 l1 t310 t311 t312 t315 t316 false) else (if bt319.2 = 20 then (fullerlaw02_ShapeJoins.j1 kj3 l0 l1 t310 t311 t312 t315 t316 (bt323.2 == 20)) else (fullerlaw02_ShapeJoins.j1 kj3 l0 l1 t310 t311 t312 t315 t316 false)))))))) = some r := H
        have A9 := Aside0.mk A90
        clear A90
        replace H := Option.bind_eq_some_iff.mp H
        obtain ⟨⟨t319, t320⟩, A100, H⟩ := H
        replace H : ((shape_Join.f kj3 ([] : List Int) l0).bind fun bt323 => ((shape_Check.f kj3 l0).bind fun t327 => (if t327 = true then (if t320 = 0 then (if bt323.2 = 0 then ((fullerref02_Same.f kj3 t319 l0).bind fun t328 => (if t328 = true then ((fullerref02_Same.f kj3 bt323.1 l0).bind fun t329 => (if t329 = true then (fullerlaw02_ShapeJoins.j1 kj3 l0 l1 t310 t311 t312 t315 t316 true) else ((shape_Check.f kj3 l0).bind fun t330 => (if t330 = true then (fullerlaw02_ShapeJoins.j1 kj3 l0 l1 t310 t311 t312 t315 t316 false) else (if t320 = 20 then (fullerlaw02_ShapeJoins.j1 kj3 l0 l1 t310 t311 t312 t315 t316 (bt323.2 == 20)) else (fullerlaw02_ShapeJoins.j1 kj3 l0 l1 t310 t311 t312 t315 t316 false)))))) else ((shape_Check.f kj3 l0).bind fun t331 => (if t331 = true then (fullerlaw02_ShapeJoins.j1 kj3 l0 l1 t310 t311 t312 t315 t316 false) else (if t320 = 20 then (fullerlaw02_ShapeJoins.j1 kj3 l0 l1 t310 t311 t312 t315 t316 (bt323.2 == 20)) else (fullerlaw02_ShapeJoins.j1 kj3 l0 l1 t310 t311 t312 t315 t316 false)))))) else ((shape_Check.f kj3 l0).bind fun t332 => (if t332 = true then (fullerlaw02_ShapeJoins.j1 kj3 l0 l1 t310 t311 t312 t315 t316 false) else (if t320 = 20 then (fullerlaw02_ShapeJoins.j1 kj3 l0 l1 t310 t311 t312 t315 t316 (bt323.2 == 20)) else (fullerlaw02_ShapeJoins.j1 kj3 l0 l1 t310 t311 t312 t315 t316 false))))) else ((shape_Check.f kj3 l0).bind fun t333 => (if t333 = true then (fullerlaw02_ShapeJoins.j1 kj3 l0 l1 t310 t311 t312 t315 t316 false) else (if t320 = 20 then (fullerlaw02_ShapeJoins.j1 kj3 l0 l1 t310 t311 t312 t315 t316 (bt323.2 == 20)) else (fullerlaw02_ShapeJoins.j1 kj3 l0 l1 t310 t311 t312 t315 t316 false))))) else ((shape_Check.f kj3 l0).bind fun t334 => (if t334 = true then (fullerlaw02_ShapeJoins.j1 kj3 l0 l1 t310 t311 t312 t315 t316 false) else (if t320 = 20 then (fullerlaw02_ShapeJoins.j1 kj3 l0 l1 t310 t311 t312 t315 t316 (bt323.2 == 20)) else (fullerlaw02_ShapeJoins.j1 kj3 l0 l1 t310 t311 t312 t315 t316 false))))))) = some r := H
        have A10 := Aside0.mk A100
        clear A100
        replace H := Option.bind_eq_some_iff.mp H
        obtain ⟨⟨t323, t324⟩, A110, H⟩ := H
        replace H : ((shape_Check.f kj3 l0).bind fun t327 => (if t327 = true then (if t320 = 0 then (if t324 = 0 then ((fullerref02_Same.f kj3 t319 l0).bind fun t328 => (if t328 = true then ((fullerref02_Same.f kj3 t323 l0).bind fun t329 => (if t329 = true then (fullerlaw02_ShapeJoins.j1 kj3 l0 l1 t310 t311 t312 t315 t316 true) else ((shape_Check.f kj3 l0).bind fun t330 => (if t330 = true then (fullerlaw02_ShapeJoins.j1 kj3 l0 l1 t310 t311 t312 t315 t316 false) else (if t320 = 20 then (fullerlaw02_ShapeJoins.j1 kj3 l0 l1 t310 t311 t312 t315 t316 (t324 == 20)) else (fullerlaw02_ShapeJoins.j1 kj3 l0 l1 t310 t311 t312 t315 t316 false)))))) else ((shape_Check.f kj3 l0).bind fun t331 => (if t331 = true then (fullerlaw02_ShapeJoins.j1 kj3 l0 l1 t310 t311 t312 t315 t316 false) else (if t320 = 20 then (fullerlaw02_ShapeJoins.j1 kj3 l0 l1 t310 t311 t312 t315 t316 (t324 == 20)) else (fullerlaw02_ShapeJoins.j1 kj3 l0 l1 t310 t311 t312 t315 t316 false)))))) else ((shape_Check.f kj3 l0).bind fun t332 => (if t332 = true then (fullerlaw02_ShapeJoins.j1 kj3 l0 l1 t310 t311 t312 t315 t316 false) else (if t320 = 20 then (fullerlaw02_ShapeJoins.j1 kj3 l0 l1 t310 t311 t312 t315 t316 (t324 == 20)) else (fullerlaw02_ShapeJoins.j1 kj3 l0 l1 t310 t311 t312 t315 t316 false))))) else ((shape_Check.f kj3 l0).bind fun t333 => (if t333 = true then (fullerlaw02_ShapeJoins.j1 kj3 l0 l1 t310 t311 t312 t315 t316 false) else (if t320 = 20 then (fullerlaw02_ShapeJoins.j1 kj3 l0 l1 t310 t311 t312 t315 t316 (t324 == 20)) else (fullerlaw02_ShapeJoins.j1 kj3 l0 l1 t310 t311 t312 t315 t316 false))))) else ((shape_Check.f kj3 l0).bind fun t334 => (if t334 = true then (fullerlaw02_ShapeJoins.j1 kj3 l0 l1 t310 t311 t312 t315 t316 false) else (if t320 = 20 then (fullerlaw02_ShapeJoins.j1 kj3 l0 l1 t310 t311 t312 t315 t316 (t324 == 20)) else (fullerlaw02_ShapeJoins.j1 kj3 l0 l1 t310 t311 t312 t315 t316 false)))))) = some r := H
        have A11 := Aside0.mk A110
        clear A110
        have HC12 := Aside0.mk H
        clear H
        go_upto_region 8 with (first | ((with_reducible refine gate_callee (f := 15) rfl ?_); refine goesL_ (some 28) rfl rfl Try.func15 (by kernel_rfl) rfl #[.slice A0 l0.length c0, .slice A1 l1.length c1] rfl (by (try simp only [List.map_toArray, List.map_cons, List.map_nil]); first | done | rfl | (simp only [List.length_drop, List.length_take]; rfl)) ?_; (with_reducible refine (shape_Join.calls kj3 _ _ l0 _ _ l1 t311 t312 _ ?side1 ?side2 ?side3 ?side4 A8.out).mono ?_); (case side1 => repeat (first | exact (Kd.C_below HR0.out HB.out) | (with_reducible refine Kd.C_alloc ?_ _) | (with_reducible refine Kd.C_drewN ?_ _) | (with_reducible refine Kd.C_drew ?_))); (case side2 => exact HC0.out); (case side3 => repeat (first | exact (Kd.C_below HR1.out HB.out) | (with_reducible refine Kd.C_alloc ?_ _) | (with_reducible refine Kd.C_drewN ?_ _) | (with_reducible refine Kd.C_drew ?_))); (case side4 => exact HC1.out); rintro e w13 ⟨v313, rfl, ho0, hb⟩; refine ⟨_, rfl, ?_⟩; have n0_ := Aside0.mk (Kd.R_lower ho0 (below_size (by repeat (first | (with_reducible first | exact HB.out | apply below_alloc | apply pw_below_drewN | apply below_drew1) | exact HB.out)))); have n1_ := Aside0.mk (below_step (by repeat (first | (with_reducible first | exact HB.out | apply below_alloc | apply pw_below_drewN | apply below_drew1) | exact HB.out)) hb); clear HB; have HO314 := n0_; have HB := n1_; clear n0_ n1_; (try clear hb); (try clear hb2); (try clear hk); (try clear hi); (try clear ho0)) | ((with_reducible refine gate_callee (f := 15) rfl ?_); refine goesL_ (some 34) rfl rfl Try.func15 (by kernel_rfl) rfl #[.slice A1 l1.length c1, .slice A0 l0.length c0] rfl (by (try simp only [List.map_toArray, List.map_cons, List.map_nil]); first | done | rfl | (simp only [List.length_drop, List.length_take]; rfl)) ?_; (with_reducible refine (shape_Join.calls kj3 _ _ l1 _ _ l0 t315 t316 _ ?side1 ?side2 ?side3 ?side4 A9.out).mono ?_); (case side1 => repeat (first | exact (Kd.C_below HR1.out HB.out) | (with_reducible refine Kd.C_alloc ?_ _) | (with_reducible refine Kd.C_drewN ?_ _) | (with_reducible refine Kd.C_drew ?_))); (case side2 => exact HC1.out); (case side3 => repeat (first | exact (Kd.C_below HR0.out HB.out) | (with_reducible refine Kd.C_alloc ?_ _) | (with_reducible refine Kd.C_drewN ?_ _) | (with_reducible refine Kd.C_drew ?_))); (case side4 => exact HC0.out); rintro e w14 ⟨v317, rfl, ho0, hb⟩; refine ⟨_, rfl, ?_⟩; have n0_ := Aside0.mk (Kd.R_elder' (by (with_reducible repeat (first | apply Kd.R_alloc | apply Kd.R_drewN | apply Kd.R_drew)); exact HO314.out) (Kd.R_base ho0) hb); have n1_ := Aside0.mk (Kd.R_lower (Kd.R_new' ho0 (Kd.R_lt (by (with_reducible repeat (first | apply Kd.R_alloc | apply Kd.R_drewN | apply Kd.R_drew)); exact HO314.out))) (below_size (by repeat (first | (with_reducible first | exact HB.out | apply below_alloc | apply pw_below_drewN | apply below_drew1) | exact HB.out)))); have n2_ := Aside0.mk (below_step (by repeat (first | (with_reducible first | exact HB.out | apply below_alloc | apply pw_below_drewN | apply below_drew1) | exact HB.out)) hb); clear HO314; clear HB; have HO314 := n0_; have HO318 := n1_; have HB := n2_; clear n0_ n1_ n2_; (try clear hb); (try clear hb2); (try clear hk); (try clear hi); (try clear ho0)) | ((with_reducible refine gate_callee (f := 15) rfl ?_); refine goesL_ (some 40) rfl rfl Try.func15 (by kernel_rfl) rfl #[.slice A0 l0.length c0, .slice A0 l0.length c0] rfl (by (try simp only [List.map_toArray, List.map_cons, List.map_nil]); first | done | rfl | (simp only [List.length_drop, List.length_take]; rfl)) ?_; (with_reducible refine (shape_Join.calls kj3 _ _ l0 _ _ l0 t319 t320 _ ?side1 ?side2 ?side3 ?side4 A10.out).mono ?_); (case side1 => repeat (first | exact (Kd.C_below HR0.out HB.out) | (with_reducible refine Kd.C_alloc ?_ _) | (with_reducible refine Kd.C_drewN ?_ _) | (with_reducible refine Kd.C_drew ?_))); (case side2 => exact HC0.out); (case side3 => repeat (first | exact (Kd.C_below HR0.out HB.out) | (with_reducible refine Kd.C_alloc ?_ _) | (with_reducible refine Kd.C_drewN ?_ _) | (with_reducible refine Kd.C_drew ?_))); (case side4 => exact HC0.out); rintro e w15 ⟨v321, rfl, ho0, hb⟩; refine ⟨_, rfl, ?_⟩; have n0_ := Aside0.mk (Kd.R_elder' (by (with_reducible repeat (first | apply Kd.R_alloc | apply Kd.R_drewN | apply Kd.R_drew)); exact HO314.out) (Kd.R_base ho0) hb); have n1_ := Aside0.mk (Kd.R_elder' (by (with_reducible repeat (first | apply Kd.R_alloc | apply Kd.R_drewN | apply Kd.R_drew)); exact HO318.out) (Kd.R_base ho0) hb); have n2_ := Aside0.mk (Kd.R_lower (Kd.R_new' (Kd.R_new' ho0 (Kd.R_lt (by (with_reducible repeat (first | apply Kd.R_alloc | apply Kd.R_drewN | apply Kd.R_drew)); exact HO314.out))) (Kd.R_lt (by (with_reducible repeat (first | apply Kd.R_alloc | apply Kd.R_drewN | apply Kd.R_drew)); exact HO318.out))) (below_size (by repeat (first | (with_reducible first | exact HB.out | apply below_alloc | apply pw_below_drewN | apply below_drew1) | exact HB.out)))); have n3_ := Aside0.mk (below_step (by repeat (first | (with_reducible first | exact HB.out | apply below_alloc | apply pw_below_drewN | apply below_drew1) | exact HB.out)) hb); clear HO314; clear HO318; clear HB; have HO314 := n0_; have HO318 := n1_; have HO322 := n2_; have HB := n3_; clear n0_ n1_ n2_ n3_; (try clear hb); (try clear hb2); (try clear hk); (try clear hi); (try clear ho0)) | ((with_reducible refine gate_callee (f := 15) rfl ?_); refine goesL_ (some 45) rfl rfl Try.func15 (by kernel_rfl) rfl #[.slice none 0 0, .slice A0 l0.length c0] rfl (by (try simp only [List.map_toArray, List.map_cons, List.map_nil]); first | done | rfl | (simp only [List.length_drop, List.length_take]; rfl)) ?_; (refine (shape_Join.calls kj3 _ _ ([] : List Int) _ _ l0 t323 t324 _ ?side1 ?side2 ?side3 ?side4 A11.out).mono ?_); (case side1 => exact Kd.C_nil _ _); (case side2 => exact Nat.le_refl _); (case side3 => repeat (first | exact (Kd.C_below HR0.out HB.out) | (with_reducible refine Kd.C_alloc ?_ _) | (with_reducible refine Kd.C_drewN ?_ _) | (with_reducible refine Kd.C_drew ?_))); (case side4 => exact HC0.out); rintro e w16 ⟨v325, rfl, ho0, hb⟩; refine ⟨_, rfl, ?_⟩; have n0_ := Aside0.mk (Kd.R_elder' (by (with_reducible repeat (first | apply Kd.R_alloc | apply Kd.R_drewN | apply Kd.R_drew)); exact HO314.out) (Kd.R_base ho0) hb); have n1_ := Aside0.mk (Kd.R_elder' (by (with_reducible repeat (first | apply Kd.R_alloc | apply Kd.R_drewN | apply Kd.R_drew)); exact HO318.out) (Kd.R_base ho0) hb); have n2_ := Aside0.mk (Kd.R_elder' (by (with_reducible repeat (first | apply Kd.R_alloc | apply Kd.R_drewN | apply Kd.R_drew)); exact HO322.out) (Kd.R_base ho0) hb); have n3_ := Aside0.mk (Kd.R_lower (Kd.R_new' (Kd.R_new' (Kd.R_new' ho0 (Kd.R_lt (by (with_reducible repeat (first | apply Kd.R_alloc | apply Kd.R_drewN | apply Kd.R_drew)); exact HO314.out))) (Kd.R_lt (by (with_reducible repeat (first | apply Kd.R_alloc | apply Kd.R_drewN | apply Kd.R_drew)); exact HO318.out))) (Kd.R_lt (by (with_reducible repeat (first | apply Kd.R_alloc | apply Kd.R_drewN | apply Kd.R_drew)); exact HO322.out))) (below_size (by repeat (first | (with_reducible first | exact HB.out | apply below_alloc | apply pw_below_drewN | apply below_drew1) | exact HB.out)))); have n4_ := Aside0.mk (below_step (by repeat (first | (with_reducible first | exact HB.out | apply below_alloc | apply pw_below_drewN | apply below_drew1) | exact HB.out)) hb); clear HO314; clear HO318; clear HO322; clear HB; have HO314 := n0_; have HO318 := n1_; have HO322 := n2_; have HO326 := n3_; have HB := n4_; clear n0_ n1_ n2_ n3_ n4_; (try clear hb); (try clear hb2); (try clear hk); (try clear hi); (try clear ho0)))
        (try simp only [Act.put, List.setIfInBounds_toArray, List.set_cons_zero, List.set_cons_succ])
        go_cut [14] (fun v14 wc => ∃ (kq : Nat) (x14_11 : Bool), v14 = .bool x14_11 ∧ Aside0 (fullerlaw02_ShapeJoins.j1 kq l0 l1 t310 t311 t312 t315 t316 x14_11 = some r) ∧ Aside0 (kq ≤ kj3) ∧ Aside0 (Kd.R (Kd.int .i64) 3 wc w.heap.size (fun k_ => some k_ ≠ (v317 : Value).ownBlock) v313 t311) ∧ Aside0 (Kd.R (Kd.int .i64) 3 wc w.heap.size (fun k_ => some k_ ≠ (v313 : Value).ownBlock) v317 t315) ∧ Aside0 (Below w.heap.size w wc))
        case first =>
          have H := HC12.out
          clear HC12
          replace H := Option.bind_eq_some_iff.mp H
          obtain ⟨t327, A170, H⟩ := H
          replace H : (if t327 = true then (if t320 = 0 then (if t324 = 0 then ((fullerref02_Same.f kj3 t319 l0).bind fun t328 => (if t328 = true then ((fullerref02_Same.f kj3 t323 l0).bind fun t329 => (if t329 = true then (fullerlaw02_ShapeJoins.j1 kj3 l0 l1 t310 t311 t312 t315 t316 true) else ((shape_Check.f kj3 l0).bind fun t330 => (if t330 = true then (fullerlaw02_ShapeJoins.j1 kj3 l0 l1 t310 t311 t312 t315 t316 false) else (if t320 = 20 then (fullerlaw02_ShapeJoins.j1 kj3 l0 l1 t310 t311 t312 t315 t316 (t324 == 20)) else (fullerlaw02_ShapeJoins.j1 kj3 l0 l1 t310 t311 t312 t315 t316 false)))))) else ((shape_Check.f kj3 l0).bind fun t331 => (if t331 = true then (fullerlaw02_ShapeJoins.j1 kj3 l0 l1 t310 t311 t312 t315 t316 false) else (if t320 = 20 then (fullerlaw02_ShapeJoins.j1 kj3 l0 l1 t310 t311 t312 t315 t316 (t324 == 20)) else (fullerlaw02_ShapeJoins.j1 kj3 l0 l1 t310 t311 t312 t315 t316 false)))))) else ((shape_Check.f kj3 l0).bind fun t332 => (if t332 = true then (fullerlaw02_ShapeJoins.j1 kj3 l0 l1 t310 t311 t312 t315 t316 false) else (if t320 = 20 then (fullerlaw02_ShapeJoins.j1 kj3 l0 l1 t310 t311 t312 t315 t316 (t324 == 20)) else (fullerlaw02_ShapeJoins.j1 kj3 l0 l1 t310 t311 t312 t315 t316 false))))) else ((shape_Check.f kj3 l0).bind fun t333 => (if t333 = true then (fullerlaw02_ShapeJoins.j1 kj3 l0 l1 t310 t311 t312 t315 t316 false) else (if t320 = 20 then (fullerlaw02_ShapeJoins.j1 kj3 l0 l1 t310 t311 t312 t315 t316 (t324 == 20)) else (fullerlaw02_ShapeJoins.j1 kj3 l0 l1 t310 t311 t312 t315 t316 false))))) else ((shape_Check.f kj3 l0).bind fun t334 => (if t334 = true then (fullerlaw02_ShapeJoins.j1 kj3 l0 l1 t310 t311 t312 t315 t316 false) else (if t320 = 20 then (fullerlaw02_ShapeJoins.j1 kj3 l0 l1 t310 t311 t312 t315 t316 (t324 == 20)) else (fullerlaw02_ShapeJoins.j1 kj3 l0 l1 t310 t311 t312 t315 t316 false))))) = some r := H
          have A17 := Aside0.mk A170
          clear A170
          by_cases c18 : t327 = true
          · subst c18
            have H1 : (if t320 = 0 then (if t324 = 0 then ((fullerref02_Same.f kj3 t319 l0).bind fun t328 => (if t328 = true then ((fullerref02_Same.f kj3 t323 l0).bind fun t329 => (if t329 = true then (fullerlaw02_ShapeJoins.j1 kj3 l0 l1 t310 t311 t312 t315 t316 true) else ((shape_Check.f kj3 l0).bind fun t330 => (if t330 = true then (fullerlaw02_ShapeJoins.j1 kj3 l0 l1 t310 t311 t312 t315 t316 false) else (if t320 = 20 then (fullerlaw02_ShapeJoins.j1 kj3 l0 l1 t310 t311 t312 t315 t316 (t324 == 20)) else (fullerlaw02_ShapeJoins.j1 kj3 l0 l1 t310 t311 t312 t315 t316 false)))))) else ((shape_Check.f kj3 l0).bind fun t331 => (if t331 = true then (fullerlaw02_ShapeJoins.j1 kj3 l0 l1 t310 t311 t312 t315 t316 false) else (if t320 = 20 then (fullerlaw02_ShapeJoins.j1 kj3 l0 l1 t310 t311 t312 t315 t316 (t324 == 20)) else (fullerlaw02_ShapeJoins.j1 kj3 l0 l1 t310 t311 t312 t315 t316 false)))))) else ((shape_Check.f kj3 l0).bind fun t332 => (if t332 = true then (fullerlaw02_ShapeJoins.j1 kj3 l0 l1 t310 t311 t312 t315 t316 false) else (if t320 = 20 then (fullerlaw02_ShapeJoins.j1 kj3 l0 l1 t310 t311 t312 t315 t316 (t324 == 20)) else (fullerlaw02_ShapeJoins.j1 kj3 l0 l1 t310 t311 t312 t315 t316 false))))) else ((shape_Check.f kj3 l0).bind fun t333 => (if t333 = true then (fullerlaw02_ShapeJoins.j1 kj3 l0 l1 t310 t311 t312 t315 t316 false) else (if t320 = 20 then (fullerlaw02_ShapeJoins.j1 kj3 l0 l1 t310 t311 t312 t315 t316 (t324 == 20)) else (fullerlaw02_ShapeJoins.j1 kj3 l0 l1 t310 t311 t312 t315 t316 false))))) = some r := by rw [if_pos rfl] at H; exact H
            clear H
            have H := H1
            clear H1
            by_cases c19 : t320 = 0
            · rw [if_pos c19] at H
              have c19b0 : (t320 == 0) = true := beq_iff_eq.mpr c19
              have c19b1 : (t320 != 0) = false := bne_eq_false_iff_eq.mpr c19
              clear c19
              (first | rw [c19b0] | (simp only [i64_w, i32_w]; rw [c19b0]) | skip)
              by_cases c20 : t324 = 0
              · rw [if_pos c20] at H
                have c20b0 : (t324 == 0) = true := beq_iff_eq.mpr c20
                have c20b1 : (t324 != 0) = false := bne_eq_false_iff_eq.mpr c20
                clear c20
                replace H := Option.bind_eq_some_iff.mp H
                obtain ⟨t328, A210, H⟩ := H
                replace H : (if t328 = true then ((fullerref02_Same.f kj3 t323 l0).bind fun t329 => (if t329 = true then (fullerlaw02_ShapeJoins.j1 kj3 l0 l1 t310 t311 t312 t315 t316 true) else ((shape_Check.f kj3 l0).bind fun t330 => (if t330 = true then (fullerlaw02_ShapeJoins.j1 kj3 l0 l1 t310 t311 t312 t315 t316 false) else (if t320 = 20 then (fullerlaw02_ShapeJoins.j1 kj3 l0 l1 t310 t311 t312 t315 t316 (t324 == 20)) else (fullerlaw02_ShapeJoins.j1 kj3 l0 l1 t310 t311 t312 t315 t316 false)))))) else ((shape_Check.f kj3 l0).bind fun t331 => (if t331 = true then (fullerlaw02_ShapeJoins.j1 kj3 l0 l1 t310 t311 t312 t315 t316 false) else (if t320 = 20 then (fullerlaw02_ShapeJoins.j1 kj3 l0 l1 t310 t311 t312 t315 t316 (t324 == 20)) else (fullerlaw02_ShapeJoins.j1 kj3 l0 l1 t310 t311 t312 t315 t316 false))))) = some r := H
                have A21 := Aside0.mk A210
                clear A210
                by_cases c22 : t328 = true
                · subst c22
                  have H1 : ((fullerref02_Same.f kj3 t323 l0).bind fun t329 => (if t329 = true then (fullerlaw02_ShapeJoins.j1 kj3 l0 l1 t310 t311 t312 t315 t316 true) else ((shape_Check.f kj3 l0).bind fun t330 => (if t330 = true then (fullerlaw02_ShapeJoins.j1 kj3 l0 l1 t310 t311 t312 t315 t316 false) else (if t320 = 20 then (fullerlaw02_ShapeJoins.j1 kj3 l0 l1 t310 t311 t312 t315 t316 (t324 == 20)) else (fullerlaw02_ShapeJoins.j1 kj3 l0 l1 t310 t311 t312 t315 t316 false)))))) = some r := by rw [if_pos rfl] at H; exact H
                  clear H
                  have H := H1
                  clear H1
                  replace H := Option.bind_eq_some_iff.mp H
                  obtain ⟨t329, A230, H⟩ := H
                  replace H : (if t329 = true then (fullerlaw02_ShapeJoins.j1 kj3 l0 l1 t310 t311 t312 t315 t316 true) else ((shape_Check.f kj3 l0).bind fun t330 => (if t330 = true then (fullerlaw02_ShapeJoins.j1 kj3 l0 l1 t310 t311 t312 t315 t316 false) else (if t320 = 20 then (fullerlaw02_ShapeJoins.j1 kj3 l0 l1 t310 t311 t312 t315 t316 (t324 == 20)) else (fullerlaw02_ShapeJoins.j1 kj3 l0 l1 t310 t311 t312 t315 t316 false))))) = some r := H
                  have A23 := Aside0.mk A230
                  clear A230
                  by_cases c24 : t329 = true
                  · subst c24
                    have H1 : (fullerlaw02_ShapeJoins.j1 kj3 l0 l1 t310 t311 t312 t315 t316 true) = some r := by rw [if_pos rfl] at H; exact H
                    clear H
                    have H := H1
                    clear H1
                    have H' := Aside0.mk H
                    clear H
                    go_wp2_with (first | ((with_reducible refine gate_callee (f := 18) rfl ?_); refine goesL_ (some 49) rfl rfl Try.func18 (by kernel_rfl) rfl #[.slice A0 l0.length c0] rfl (by (try simp only [List.map_toArray, List.map_cons, List.map_nil]); first | done | rfl | (simp only [List.length_drop, List.length_take]; rfl)) ?_; (with_reducible refine (shape_Check.calls kj3 _ _ l0 true _ ?side1 ?side2 A17.out).mono ?_); (case side1 => repeat (first | exact (Kd.C_below HR0.out HB.out) | (with_reducible refine Kd.C_alloc ?_ _) | (with_reducible refine Kd.C_drewN ?_ _) | (with_reducible refine Kd.C_drew ?_))); (case side2 => exact HC0.out); rintro e w' ⟨rfl, ⟨nd, rfl⟩⟩; refine ⟨_, rfl, ?_⟩; obtain ⟨Ao25, co25, eo25⟩ := Kd.R_slice HO322.out; subst eo25) | (go_at_call 17; (with_reducible refine (fullerref02_Same.calls kj3 _ _ t319 _ _ l0 true _ ?side1 ?side2 ?side3 ?side4 A21.out).mono ?_); (case side1 => repeat (first | exact (Kd.R_reads' HO322.out).2.2 | (with_reducible refine Kd.C_alloc ?_ _) | (with_reducible refine Kd.C_drewN ?_ _) | (with_reducible refine Kd.C_drew ?_))); (case side2 => exact (Kd.R_reads' HO322.out).2.1); (case side3 => repeat (first | exact (Kd.C_below HR0.out (by repeat (first | (with_reducible first | exact HB.out | apply below_alloc | apply pw_below_drewN | apply below_drew1) | exact HB.out))) | (with_reducible refine Kd.C_alloc ?_ _) | (with_reducible refine Kd.C_drewN ?_ _) | (with_reducible refine Kd.C_drew ?_))); (case side4 => exact HC0.out); rintro e w' ⟨rfl, ⟨nd, rfl⟩⟩; obtain ⟨Ao26, co26, eo26⟩ := Kd.R_slice HO326.out; subst eo26) | (go_at_call 17; (with_reducible refine (fullerref02_Same.calls kj3 _ _ t323 _ _ l0 true _ ?side1 ?side2 ?side3 ?side4 A23.out).mono ?_); (case side1 => repeat (first | exact (Kd.R_reads' HO326.out).2.2 | (with_reducible refine Kd.C_alloc ?_ _) | (with_reducible refine Kd.C_drewN ?_ _) | (with_reducible refine Kd.C_drew ?_))); (case side2 => exact (Kd.R_reads' HO326.out).2.1); (case side3 => repeat (first | exact (Kd.C_below HR0.out (by repeat (first | (with_reducible first | exact HB.out | apply below_alloc | apply pw_below_drewN | apply below_drew1) | exact HB.out))) | (with_reducible refine Kd.C_alloc ?_ _) | (with_reducible refine Kd.C_drewN ?_ _) | (with_reducible refine Kd.C_drew ?_))); (case side4 => exact HC0.out); rintro e w' ⟨rfl, ⟨nd, rfl⟩⟩))
                    go_meet
                    case rel => exact ⟨_, (true), (by first | rfl | (simp; done) | (simp [*]; done)), H', ⟨by have := HJ3.out; first | omega | exact Nat.le_refl _⟩, ⟨by (with_reducible repeat (first | apply Kd.R_alloc | apply Kd.R_drewN | apply Kd.R_drew)); exact Kd.R_mono HO314.out (fun _ hk => hk.1.1.2)⟩, ⟨by (with_reducible repeat (first | apply Kd.R_alloc | apply Kd.R_drewN | apply Kd.R_drew)); exact Kd.R_mono HO318.out (fun _ hk => hk.1.1.2)⟩, ⟨by repeat (first | (with_reducible first | exact HB.out | apply below_alloc | apply pw_below_drewN | apply below_drew1) | exact HB.out)⟩⟩
                  · replace c24 := Bool.eq_false_iff.mpr c24
                    subst c24
                    have H1 : ((shape_Check.f kj3 l0).bind fun t330 => (if t330 = true then (fullerlaw02_ShapeJoins.j1 kj3 l0 l1 t310 t311 t312 t315 t316 false) else (if t320 = 20 then (fullerlaw02_ShapeJoins.j1 kj3 l0 l1 t310 t311 t312 t315 t316 (t324 == 20)) else (fullerlaw02_ShapeJoins.j1 kj3 l0 l1 t310 t311 t312 t315 t316 false)))) = some r := by rw [if_neg (show ¬ (false = true) by decide)] at H; exact H
                    clear H
                    have H := H1
                    clear H1
                    replace H := Option.bind_eq_some_iff.mp H
                    obtain ⟨t330, A270, H⟩ := H
                    replace H : (if t330 = true then (fullerlaw02_ShapeJoins.j1 kj3 l0 l1 t310 t311 t312 t315 t316 false) else (if t320 = 20 then (fullerlaw02_ShapeJoins.j1 kj3 l0 l1 t310 t311 t312 t315 t316 (t324 == 20)) else (fullerlaw02_ShapeJoins.j1 kj3 l0 l1 t310 t311 t312 t315 t316 false))) = some r := H
                    have A27 := Aside0.mk A270
                    clear A270
                    by_cases c28 : t330 = true
                    · subst c28
                      have H1 : (fullerlaw02_ShapeJoins.j1 kj3 l0 l1 t310 t311 t312 t315 t316 false) = some r := by rw [if_pos rfl] at H; exact H
                      clear H
                      have H := H1
                      clear H1
                      have H' := Aside0.mk H
                      clear H
                      go_wp2_with (first | ((with_reducible refine gate_callee (f := 18) rfl ?_); refine goesL_ (some 49) rfl rfl Try.func18 (by kernel_rfl) rfl #[.slice A0 l0.length c0] rfl (by (try simp only [List.map_toArray, List.map_cons, List.map_nil]); first | done | rfl | (simp only [List.length_drop, List.length_take]; rfl)) ?_; (with_reducible refine (shape_Check.calls kj3 _ _ l0 true _ ?side1 ?side2 A17.out).mono ?_); (case side1 => repeat (first | exact (Kd.C_below HR0.out HB.out) | (with_reducible refine Kd.C_alloc ?_ _) | (with_reducible refine Kd.C_drewN ?_ _) | (with_reducible refine Kd.C_drew ?_))); (case side2 => exact HC0.out); rintro e w' ⟨rfl, ⟨nd, rfl⟩⟩; refine ⟨_, rfl, ?_⟩; obtain ⟨Ao29, co29, eo29⟩ := Kd.R_slice HO322.out; subst eo29) | (go_at_call 17; (with_reducible refine (fullerref02_Same.calls kj3 _ _ t319 _ _ l0 true _ ?side1 ?side2 ?side3 ?side4 A21.out).mono ?_); (case side1 => repeat (first | exact (Kd.R_reads' HO322.out).2.2 | (with_reducible refine Kd.C_alloc ?_ _) | (with_reducible refine Kd.C_drewN ?_ _) | (with_reducible refine Kd.C_drew ?_))); (case side2 => exact (Kd.R_reads' HO322.out).2.1); (case side3 => repeat (first | exact (Kd.C_below HR0.out (by repeat (first | (with_reducible first | exact HB.out | apply below_alloc | apply pw_below_drewN | apply below_drew1) | exact HB.out))) | (with_reducible refine Kd.C_alloc ?_ _) | (with_reducible refine Kd.C_drewN ?_ _) | (with_reducible refine Kd.C_drew ?_))); (case side4 => exact HC0.out); rintro e w' ⟨rfl, ⟨nd, rfl⟩⟩; obtain ⟨Ao30, co30, eo30⟩ := Kd.R_slice HO326.out; subst eo30) | (go_at_call 17; (with_reducible refine (fullerref02_Same.calls kj3 _ _ t323 _ _ l0 false _ ?side1 ?side2 ?side3 ?side4 A23.out).mono ?_); (case side1 => repeat (first | exact (Kd.R_reads' HO326.out).2.2 | (with_reducible refine Kd.C_alloc ?_ _) | (with_reducible refine Kd.C_drewN ?_ _) | (with_reducible refine Kd.C_drew ?_))); (case side2 => exact (Kd.R_reads' HO326.out).2.1); (case side3 => repeat (first | exact (Kd.C_below HR0.out (by repeat (first | (with_reducible first | exact HB.out | apply below_alloc | apply pw_below_drewN | apply below_drew1) | exact HB.out))) | (with_reducible refine Kd.C_alloc ?_ _) | (with_reducible refine Kd.C_drewN ?_ _) | (with_reducible refine Kd.C_drew ?_))); (case side4 => exact HC0.out); rintro e w' ⟨rfl, ⟨nd, rfl⟩⟩) | (go_at_call 18; (with_reducible refine (shape_Check.calls kj3 _ _ l0 true _ ?side1 ?side2 A27.out).mono ?_); (case side1 => repeat (first | exact (Kd.C_below HR0.out (by repeat (first | (with_reducible first | exact HB.out | apply below_alloc | apply pw_below_drewN | apply below_drew1) | exact HB.out))) | (with_reducible refine Kd.C_alloc ?_ _) | (with_reducible refine Kd.C_drewN ?_ _) | (with_reducible refine Kd.C_drew ?_))); (case side2 => exact HC0.out); rintro e w' ⟨rfl, ⟨nd, rfl⟩⟩))
                      go_meet
                      case rel => exact ⟨_, (false), (by first | rfl | (simp; done) | (simp [*]; done)), H', ⟨by have := HJ3.out; first | omega | exact Nat.le_refl _⟩, ⟨by (with_reducible repeat (first | apply Kd.R_alloc | apply Kd.R_drewN | apply Kd.R_drew)); exact Kd.R_mono HO314.out (fun _ hk => hk.1.1.2)⟩, ⟨by (with_reducible repeat (first | apply Kd.R_alloc | apply Kd.R_drewN | apply Kd.R_drew)); exact Kd.R_mono HO318.out (fun _ hk => hk.1.1.2)⟩, ⟨by repeat (first | (with_reducible first | exact HB.out | apply below_alloc | apply pw_below_drewN | apply below_drew1) | exact HB.out)⟩⟩
                    · replace c28 := Bool.eq_false_iff.mpr c28
                      subst c28
                      have H1 : (if t320 = 20 then (fullerlaw02_ShapeJoins.j1 kj3 l0 l1 t310 t311 t312 t315 t316 (t324 == 20)) else (fullerlaw02_ShapeJoins.j1 kj3 l0 l1 t310 t311 t312 t315 t316 false)) = some r := by rw [if_neg (show ¬ (false = true) by decide)] at H; exact H
                      clear H
                      have H := H1
                      clear H1
                      by_cases c31 : t320 = 20
                      · rw [if_pos c31] at H
                        have c31b0 : (t320 == 20) = true := beq_iff_eq.mpr c31
                        have c31b1 : (t320 != 20) = false := bne_eq_false_iff_eq.mpr c31
                        clear c31
                        have H' := Aside0.mk H
                        clear H
                        go_wp2_with (first | ((with_reducible refine gate_callee (f := 18) rfl ?_); refine goesL_ (some 49) rfl rfl Try.func18 (by kernel_rfl) rfl #[.slice A0 l0.length c0] rfl (by (try simp only [List.map_toArray, List.map_cons, List.map_nil]); first | done | rfl | (simp only [List.length_drop, List.length_take]; rfl)) ?_; (with_reducible refine (shape_Check.calls kj3 _ _ l0 true _ ?side1 ?side2 A17.out).mono ?_); (case side1 => repeat (first | exact (Kd.C_below HR0.out HB.out) | (with_reducible refine Kd.C_alloc ?_ _) | (with_reducible refine Kd.C_drewN ?_ _) | (with_reducible refine Kd.C_drew ?_))); (case side2 => exact HC0.out); rintro e w' ⟨rfl, ⟨nd, rfl⟩⟩; refine ⟨_, rfl, ?_⟩; obtain ⟨Ao32, co32, eo32⟩ := Kd.R_slice HO322.out; subst eo32) | (go_at_call 17; (with_reducible refine (fullerref02_Same.calls kj3 _ _ t319 _ _ l0 true _ ?side1 ?side2 ?side3 ?side4 A21.out).mono ?_); (case side1 => repeat (first | exact (Kd.R_reads' HO322.out).2.2 | (with_reducible refine Kd.C_alloc ?_ _) | (with_reducible refine Kd.C_drewN ?_ _) | (with_reducible refine Kd.C_drew ?_))); (case side2 => exact (Kd.R_reads' HO322.out).2.1); (case side3 => repeat (first | exact (Kd.C_below HR0.out (by repeat (first | (with_reducible first | exact HB.out | apply below_alloc | apply pw_below_drewN | apply below_drew1) | exact HB.out))) | (with_reducible refine Kd.C_alloc ?_ _) | (with_reducible refine Kd.C_drewN ?_ _) | (with_reducible refine Kd.C_drew ?_))); (case side4 => exact HC0.out); rintro e w' ⟨rfl, ⟨nd, rfl⟩⟩; obtain ⟨Ao33, co33, eo33⟩ := Kd.R_slice HO326.out; subst eo33) | (go_at_call 17; (with_reducible refine (fullerref02_Same.calls kj3 _ _ t323 _ _ l0 false _ ?side1 ?side2 ?side3 ?side4 A23.out).mono ?_); (case side1 => repeat (first | exact (Kd.R_reads' HO326.out).2.2 | (with_reducible refine Kd.C_alloc ?_ _) | (with_reducible refine Kd.C_drewN ?_ _) | (with_reducible refine Kd.C_drew ?_))); (case side2 => exact (Kd.R_reads' HO326.out).2.1); (case side3 => repeat (first | exact (Kd.C_below HR0.out (by repeat (first | (with_reducible first | exact HB.out | apply below_alloc | apply pw_below_drewN | apply below_drew1) | exact HB.out))) | (with_reducible refine Kd.C_alloc ?_ _) | (with_reducible refine Kd.C_drewN ?_ _) | (with_reducible refine Kd.C_drew ?_))); (case side4 => exact HC0.out); rintro e w' ⟨rfl, ⟨nd, rfl⟩⟩) | (go_at_call 18; (with_reducible refine (shape_Check.calls kj3 _ _ l0 false _ ?side1 ?side2 A27.out).mono ?_); (case side1 => repeat (first | exact (Kd.C_below HR0.out (by repeat (first | (with_reducible first | exact HB.out | apply below_alloc | apply pw_below_drewN | apply below_drew1) | exact HB.out))) | (with_reducible refine Kd.C_alloc ?_ _) | (with_reducible refine Kd.C_drewN ?_ _) | (with_reducible refine Kd.C_drew ?_))); (case side2 => exact HC0.out); rintro e w' ⟨rfl, ⟨nd, rfl⟩⟩))
                        go_meet
                        case rel => exact ⟨_, ((t324 == 20)), (by first | rfl | (simp; done) | (simp [*]; done)), H', ⟨by have := HJ3.out; first | omega | exact Nat.le_refl _⟩, ⟨by (with_reducible repeat (first | apply Kd.R_alloc | apply Kd.R_drewN | apply Kd.R_drew)); exact Kd.R_mono HO314.out (fun _ hk => hk.1.1.2)⟩, ⟨by (with_reducible repeat (first | apply Kd.R_alloc | apply Kd.R_drewN | apply Kd.R_drew)); exact Kd.R_mono HO318.out (fun _ hk => hk.1.1.2)⟩, ⟨by repeat (first | (with_reducible first | exact HB.out | apply below_alloc | apply pw_below_drewN | apply below_drew1) | exact HB.out)⟩⟩
                      · rw [if_neg c31] at H
                        have c31b0 : (t320 == 20) = false := beq_eq_false_iff_ne.mpr c31
                        have c31b1 : (t320 != 20) = true := bne_iff_ne.mpr c31
                        have H' := Aside0.mk H
                        clear H
                        go_wp2_with (first | ((with_reducible refine gate_callee (f := 18) rfl ?_); refine goesL_ (some 49) rfl rfl Try.func18 (by kernel_rfl) rfl #[.slice A0 l0.length c0] rfl (by (try simp only [List.map_toArray, List.map_cons, List.map_nil]); first | done | rfl | (simp only [List.length_drop, List.length_take]; rfl)) ?_; (with_reducible refine (shape_Check.calls kj3 _ _ l0 true _ ?side1 ?side2 A17.out).mono ?_); (case side1 => repeat (first | exact (Kd.C_below HR0.out HB.out) | (with_reducible refine Kd.C_alloc ?_ _) | (with_reducible refine Kd.C_drewN ?_ _) | (with_reducible refine Kd.C_drew ?_))); (case side2 => exact HC0.out); rintro e w' ⟨rfl, ⟨nd, rfl⟩⟩; refine ⟨_, rfl, ?_⟩; obtain ⟨Ao34, co34, eo34⟩ := Kd.R_slice HO322.out; subst eo34) | (go_at_call 17; (with_reducible refine (fullerref02_Same.calls kj3 _ _ t319 _ _ l0 true _ ?side1 ?side2 ?side3 ?side4 A21.out).mono ?_); (case side1 => repeat (first | exact (Kd.R_reads' HO322.out).2.2 | (with_reducible refine Kd.C_alloc ?_ _) | (with_reducible refine Kd.C_drewN ?_ _) | (with_reducible refine Kd.C_drew ?_))); (case side2 => exact (Kd.R_reads' HO322.out).2.1); (case side3 => repeat (first | exact (Kd.C_below HR0.out (by repeat (first | (with_reducible first | exact HB.out | apply below_alloc | apply pw_below_drewN | apply below_drew1) | exact HB.out))) | (with_reducible refine Kd.C_alloc ?_ _) | (with_reducible refine Kd.C_drewN ?_ _) | (with_reducible refine Kd.C_drew ?_))); (case side4 => exact HC0.out); rintro e w' ⟨rfl, ⟨nd, rfl⟩⟩; obtain ⟨Ao35, co35, eo35⟩ := Kd.R_slice HO326.out; subst eo35) | (go_at_call 17; (with_reducible refine (fullerref02_Same.calls kj3 _ _ t323 _ _ l0 false _ ?side1 ?side2 ?side3 ?side4 A23.out).mono ?_); (case side1 => repeat (first | exact (Kd.R_reads' HO326.out).2.2 | (with_reducible refine Kd.C_alloc ?_ _) | (with_reducible refine Kd.C_drewN ?_ _) | (with_reducible refine Kd.C_drew ?_))); (case side2 => exact (Kd.R_reads' HO326.out).2.1); (case side3 => repeat (first | exact (Kd.C_below HR0.out (by repeat (first | (with_reducible first | exact HB.out | apply below_alloc | apply pw_below_drewN | apply below_drew1) | exact HB.out))) | (with_reducible refine Kd.C_alloc ?_ _) | (with_reducible refine Kd.C_drewN ?_ _) | (with_reducible refine Kd.C_drew ?_))); (case side4 => exact HC0.out); rintro e w' ⟨rfl, ⟨nd, rfl⟩⟩) | (go_at_call 18; (with_reducible refine (shape_Check.calls kj3 _ _ l0 false _ ?side1 ?side2 A27.out).mono ?_); (case side1 => repeat (first | exact (Kd.C_below HR0.out (by repeat (first | (with_reducible first | exact HB.out | apply below_alloc | apply pw_below_drewN | apply below_drew1) | exact HB.out))) | (with_reducible refine Kd.C_alloc ?_ _) | (with_reducible refine Kd.C_drewN ?_ _) | (with_reducible refine Kd.C_drew ?_))); (case side2 => exact HC0.out); rintro e w' ⟨rfl, ⟨nd, rfl⟩⟩))
                        go_meet
                        case rel => exact ⟨_, (false), (by first | rfl | (simp; done) | (simp [*]; done)), H', ⟨by have := HJ3.out; first | omega | exact Nat.le_refl _⟩, ⟨by (with_reducible repeat (first | apply Kd.R_alloc | apply Kd.R_drewN | apply Kd.R_drew)); exact Kd.R_mono HO314.out (fun _ hk => hk.1.1.2)⟩, ⟨by (with_reducible repeat (first | apply Kd.R_alloc | apply Kd.R_drewN | apply Kd.R_drew)); exact Kd.R_mono HO318.out (fun _ hk => hk.1.1.2)⟩, ⟨by repeat (first | (with_reducible first | exact HB.out | apply below_alloc | apply pw_below_drewN | apply below_drew1) | exact HB.out)⟩⟩
                · replace c22 := Bool.eq_false_iff.mpr c22
                  subst c22
                  have H1 : ((shape_Check.f kj3 l0).bind fun t331 => (if t331 = true then (fullerlaw02_ShapeJoins.j1 kj3 l0 l1 t310 t311 t312 t315 t316 false) else (if t320 = 20 then (fullerlaw02_ShapeJoins.j1 kj3 l0 l1 t310 t311 t312 t315 t316 (t324 == 20)) else (fullerlaw02_ShapeJoins.j1 kj3 l0 l1 t310 t311 t312 t315 t316 false)))) = some r := by rw [if_neg (show ¬ (false = true) by decide)] at H; exact H
                  clear H
                  have H := H1
                  clear H1
                  replace H := Option.bind_eq_some_iff.mp H
                  obtain ⟨t331, A360, H⟩ := H
                  replace H : (if t331 = true then (fullerlaw02_ShapeJoins.j1 kj3 l0 l1 t310 t311 t312 t315 t316 false) else (if t320 = 20 then (fullerlaw02_ShapeJoins.j1 kj3 l0 l1 t310 t311 t312 t315 t316 (t324 == 20)) else (fullerlaw02_ShapeJoins.j1 kj3 l0 l1 t310 t311 t312 t315 t316 false))) = some r := H
                  have A36 := Aside0.mk A360
                  clear A360
                  by_cases c37 : t331 = true
                  · subst c37
                    have H1 : (fullerlaw02_ShapeJoins.j1 kj3 l0 l1 t310 t311 t312 t315 t316 false) = some r := by rw [if_pos rfl] at H; exact H
                    clear H
                    have H := H1
                    clear H1
                    have H' := Aside0.mk H
                    clear H
                    go_wp2_with (first | ((with_reducible refine gate_callee (f := 18) rfl ?_); refine goesL_ (some 49) rfl rfl Try.func18 (by kernel_rfl) rfl #[.slice A0 l0.length c0] rfl (by (try simp only [List.map_toArray, List.map_cons, List.map_nil]); first | done | rfl | (simp only [List.length_drop, List.length_take]; rfl)) ?_; (with_reducible refine (shape_Check.calls kj3 _ _ l0 true _ ?side1 ?side2 A17.out).mono ?_); (case side1 => repeat (first | exact (Kd.C_below HR0.out HB.out) | (with_reducible refine Kd.C_alloc ?_ _) | (with_reducible refine Kd.C_drewN ?_ _) | (with_reducible refine Kd.C_drew ?_))); (case side2 => exact HC0.out); rintro e w' ⟨rfl, ⟨nd, rfl⟩⟩; refine ⟨_, rfl, ?_⟩; obtain ⟨Ao38, co38, eo38⟩ := Kd.R_slice HO322.out; subst eo38) | (go_at_call 17; (with_reducible refine (fullerref02_Same.calls kj3 _ _ t319 _ _ l0 false _ ?side1 ?side2 ?side3 ?side4 A21.out).mono ?_); (case side1 => repeat (first | exact (Kd.R_reads' HO322.out).2.2 | (with_reducible refine Kd.C_alloc ?_ _) | (with_reducible refine Kd.C_drewN ?_ _) | (with_reducible refine Kd.C_drew ?_))); (case side2 => exact (Kd.R_reads' HO322.out).2.1); (case side3 => repeat (first | exact (Kd.C_below HR0.out (by repeat (first | (with_reducible first | exact HB.out | apply below_alloc | apply pw_below_drewN | apply below_drew1) | exact HB.out))) | (with_reducible refine Kd.C_alloc ?_ _) | (with_reducible refine Kd.C_drewN ?_ _) | (with_reducible refine Kd.C_drew ?_))); (case side4 => exact HC0.out); rintro e w' ⟨rfl, ⟨nd, rfl⟩⟩) | (go_at_call 18; (with_reducible refine (shape_Check.calls kj3 _ _ l0 true _ ?side1 ?side2 A36.out).mono ?_); (case side1 => repeat (first | exact (Kd.C_below HR0.out (by repeat (first | (with_reducible first | exact HB.out | apply below_alloc | apply pw_below_drewN | apply below_drew1) | exact HB.out))) | (with_reducible refine Kd.C_alloc ?_ _) | (with_reducible refine Kd.C_drewN ?_ _) | (with_reducible refine Kd.C_drew ?_))); (case side2 => exact HC0.out); rintro e w' ⟨rfl, ⟨nd, rfl⟩⟩))
                    go_meet
                    case rel => exact ⟨_, (false), (by first | rfl | (simp; done) | (simp [*]; done)), H', ⟨by have := HJ3.out; first | omega | exact Nat.le_refl _⟩, ⟨by (with_reducible repeat (first | apply Kd.R_alloc | apply Kd.R_drewN | apply Kd.R_drew)); exact Kd.R_mono HO314.out (fun _ hk => hk.1.1.2)⟩, ⟨by (with_reducible repeat (first | apply Kd.R_alloc | apply Kd.R_drewN | apply Kd.R_drew)); exact Kd.R_mono HO318.out (fun _ hk => hk.1.1.2)⟩, ⟨by repeat (first | (with_reducible first | exact HB.out | apply below_alloc | apply pw_below_drewN | apply below_drew1) | exact HB.out)⟩⟩
                  · replace c37 := Bool.eq_false_iff.mpr c37
                    subst c37
                    have H1 : (if t320 = 20 then (fullerlaw02_ShapeJoins.j1 kj3 l0 l1 t310 t311 t312 t315 t316 (t324 == 20)) else (fullerlaw02_ShapeJoins.j1 kj3 l0 l1 t310 t311 t312 t315 t316 false)) = some r := by rw [if_neg (show ¬ (false = true) by decide)] at H; exact H
                    clear H
                    have H := H1
                    clear H1
                    by_cases c39 : t320 = 20
                    · rw [if_pos c39] at H
                      have c39b0 : (t320 == 20) = true := beq_iff_eq.mpr c39
                      have c39b1 : (t320 != 20) = false := bne_eq_false_iff_eq.mpr c39
                      clear c39
                      have H' := Aside0.mk H
                      clear H
                      go_wp2_with (first | ((with_reducible refine gate_callee (f := 18) rfl ?_); refine goesL_ (some 49) rfl rfl Try.func18 (by kernel_rfl) rfl #[.slice A0 l0.length c0] rfl (by (try simp only [List.map_toArray, List.map_cons, List.map_nil]); first | done | rfl | (simp only [List.length_drop, List.length_take]; rfl)) ?_; (with_reducible refine (shape_Check.calls kj3 _ _ l0 true _ ?side1 ?side2 A17.out).mono ?_); (case side1 => repeat (first | exact (Kd.C_below HR0.out HB.out) | (with_reducible refine Kd.C_alloc ?_ _) | (with_reducible refine Kd.C_drewN ?_ _) | (with_reducible refine Kd.C_drew ?_))); (case side2 => exact HC0.out); rintro e w' ⟨rfl, ⟨nd, rfl⟩⟩; refine ⟨_, rfl, ?_⟩; obtain ⟨Ao40, co40, eo40⟩ := Kd.R_slice HO322.out; subst eo40) | (go_at_call 17; (with_reducible refine (fullerref02_Same.calls kj3 _ _ t319 _ _ l0 false _ ?side1 ?side2 ?side3 ?side4 A21.out).mono ?_); (case side1 => repeat (first | exact (Kd.R_reads' HO322.out).2.2 | (with_reducible refine Kd.C_alloc ?_ _) | (with_reducible refine Kd.C_drewN ?_ _) | (with_reducible refine Kd.C_drew ?_))); (case side2 => exact (Kd.R_reads' HO322.out).2.1); (case side3 => repeat (first | exact (Kd.C_below HR0.out (by repeat (first | (with_reducible first | exact HB.out | apply below_alloc | apply pw_below_drewN | apply below_drew1) | exact HB.out))) | (with_reducible refine Kd.C_alloc ?_ _) | (with_reducible refine Kd.C_drewN ?_ _) | (with_reducible refine Kd.C_drew ?_))); (case side4 => exact HC0.out); rintro e w' ⟨rfl, ⟨nd, rfl⟩⟩) | (go_at_call 18; (with_reducible refine (shape_Check.calls kj3 _ _ l0 false _ ?side1 ?side2 A36.out).mono ?_); (case side1 => repeat (first | exact (Kd.C_below HR0.out (by repeat (first | (with_reducible first | exact HB.out | apply below_alloc | apply pw_below_drewN | apply below_drew1) | exact HB.out))) | (with_reducible refine Kd.C_alloc ?_ _) | (with_reducible refine Kd.C_drewN ?_ _) | (with_reducible refine Kd.C_drew ?_))); (case side2 => exact HC0.out); rintro e w' ⟨rfl, ⟨nd, rfl⟩⟩))
                      go_meet
                      case rel => exact ⟨_, ((t324 == 20)), (by first | rfl | (simp; done) | (simp [*]; done)), H', ⟨by have := HJ3.out; first | omega | exact Nat.le_refl _⟩, ⟨by (with_reducible repeat (first | apply Kd.R_alloc | apply Kd.R_drewN | apply Kd.R_drew)); exact Kd.R_mono HO314.out (fun _ hk => hk.1.1.2)⟩, ⟨by (with_reducible repeat (first | apply Kd.R_alloc | apply Kd.R_drewN | apply Kd.R_drew)); exact Kd.R_mono HO318.out (fun _ hk => hk.1.1.2)⟩, ⟨by repeat (first | (with_reducible first | exact HB.out | apply below_alloc | apply pw_below_drewN | apply below_drew1) | exact HB.out)⟩⟩
                    · rw [if_neg c39] at H
                      have c39b0 : (t320 == 20) = false := beq_eq_false_iff_ne.mpr c39
                      have c39b1 : (t320 != 20) = true := bne_iff_ne.mpr c39
                      have H' := Aside0.mk H
                      clear H
                      go_wp2_with (first | ((with_reducible refine gate_callee (f := 18) rfl ?_); refine goesL_ (some 49) rfl rfl Try.func18 (by kernel_rfl) rfl #[.slice A0 l0.length c0] rfl (by (try simp only [List.map_toArray, List.map_cons, List.map_nil]); first | done | rfl | (simp only [List.length_drop, List.length_take]; rfl)) ?_; (with_reducible refine (shape_Check.calls kj3 _ _ l0 true _ ?side1 ?side2 A17.out).mono ?_); (case side1 => repeat (first | exact (Kd.C_below HR0.out HB.out) | (with_reducible refine Kd.C_alloc ?_ _) | (with_reducible refine Kd.C_drewN ?_ _) | (with_reducible refine Kd.C_drew ?_))); (case side2 => exact HC0.out); rintro e w' ⟨rfl, ⟨nd, rfl⟩⟩; refine ⟨_, rfl, ?_⟩; obtain ⟨Ao41, co41, eo41⟩ := Kd.R_slice HO322.out; subst eo41) | (go_at_call 17; (with_reducible refine (fullerref02_Same.calls kj3 _ _ t319 _ _ l0 false _ ?side1 ?side2 ?side3 ?side4 A21.out).mono ?_); (case side1 => repeat (first | exact (Kd.R_reads' HO322.out).2.2 | (with_reducible refine Kd.C_alloc ?_ _) | (with_reducible refine Kd.C_drewN ?_ _) | (with_reducible refine Kd.C_drew ?_))); (case side2 => exact (Kd.R_reads' HO322.out).2.1); (case side3 => repeat (first | exact (Kd.C_below HR0.out (by repeat (first | (with_reducible first | exact HB.out | apply below_alloc | apply pw_below_drewN | apply below_drew1) | exact HB.out))) | (with_reducible refine Kd.C_alloc ?_ _) | (with_reducible refine Kd.C_drewN ?_ _) | (with_reducible refine Kd.C_drew ?_))); (case side4 => exact HC0.out); rintro e w' ⟨rfl, ⟨nd, rfl⟩⟩) | (go_at_call 18; (with_reducible refine (shape_Check.calls kj3 _ _ l0 false _ ?side1 ?side2 A36.out).mono ?_); (case side1 => repeat (first | exact (Kd.C_below HR0.out (by repeat (first | (with_reducible first | exact HB.out | apply below_alloc | apply pw_below_drewN | apply below_drew1) | exact HB.out))) | (with_reducible refine Kd.C_alloc ?_ _) | (with_reducible refine Kd.C_drewN ?_ _) | (with_reducible refine Kd.C_drew ?_))); (case side2 => exact HC0.out); rintro e w' ⟨rfl, ⟨nd, rfl⟩⟩))
                      go_meet
                      case rel => exact ⟨_, (false), (by first | rfl | (simp; done) | (simp [*]; done)), H', ⟨by have := HJ3.out; first | omega | exact Nat.le_refl _⟩, ⟨by (with_reducible repeat (first | apply Kd.R_alloc | apply Kd.R_drewN | apply Kd.R_drew)); exact Kd.R_mono HO314.out (fun _ hk => hk.1.1.2)⟩, ⟨by (with_reducible repeat (first | apply Kd.R_alloc | apply Kd.R_drewN | apply Kd.R_drew)); exact Kd.R_mono HO318.out (fun _ hk => hk.1.1.2)⟩, ⟨by repeat (first | (with_reducible first | exact HB.out | apply below_alloc | apply pw_below_drewN | apply below_drew1) | exact HB.out)⟩⟩
              · rw [if_neg c20] at H
                have c20b0 : (t324 == 0) = false := beq_eq_false_iff_ne.mpr c20
                have c20b1 : (t324 != 0) = true := bne_iff_ne.mpr c20
                replace H := Option.bind_eq_some_iff.mp H
                obtain ⟨t332, A420, H⟩ := H
                replace H : (if t332 = true then (fullerlaw02_ShapeJoins.j1 kj3 l0 l1 t310 t311 t312 t315 t316 false) else (if t320 = 20 then (fullerlaw02_ShapeJoins.j1 kj3 l0 l1 t310 t311 t312 t315 t316 (t324 == 20)) else (fullerlaw02_ShapeJoins.j1 kj3 l0 l1 t310 t311 t312 t315 t316 false))) = some r := H
                have A42 := Aside0.mk A420
                clear A420
                by_cases c43 : t332 = true
                · subst c43
                  have H1 : (fullerlaw02_ShapeJoins.j1 kj3 l0 l1 t310 t311 t312 t315 t316 false) = some r := by rw [if_pos rfl] at H; exact H
                  clear H
                  have H := H1
                  clear H1
                  have H' := Aside0.mk H
                  clear H
                  go_wp2_with (first | ((with_reducible refine gate_callee (f := 18) rfl ?_); refine goesL_ (some 49) rfl rfl Try.func18 (by kernel_rfl) rfl #[.slice A0 l0.length c0] rfl (by (try simp only [List.map_toArray, List.map_cons, List.map_nil]); first | done | rfl | (simp only [List.length_drop, List.length_take]; rfl)) ?_; (with_reducible refine (shape_Check.calls kj3 _ _ l0 true _ ?side1 ?side2 A17.out).mono ?_); (case side1 => repeat (first | exact (Kd.C_below HR0.out HB.out) | (with_reducible refine Kd.C_alloc ?_ _) | (with_reducible refine Kd.C_drewN ?_ _) | (with_reducible refine Kd.C_drew ?_))); (case side2 => exact HC0.out); rintro e w' ⟨rfl, ⟨nd, rfl⟩⟩; refine ⟨_, rfl, ?_⟩) | (go_at_call 18; (with_reducible refine (shape_Check.calls kj3 _ _ l0 true _ ?side1 ?side2 A42.out).mono ?_); (case side1 => repeat (first | exact (Kd.C_below HR0.out (by repeat (first | (with_reducible first | exact HB.out | apply below_alloc | apply pw_below_drewN | apply below_drew1) | exact HB.out))) | (with_reducible refine Kd.C_alloc ?_ _) | (with_reducible refine Kd.C_drewN ?_ _) | (with_reducible refine Kd.C_drew ?_))); (case side2 => exact HC0.out); rintro e w' ⟨rfl, ⟨nd, rfl⟩⟩))
                  go_meet
                  case rel => exact ⟨_, (false), (by first | rfl | (simp; done) | (simp [*]; done)), H', ⟨by have := HJ3.out; first | omega | exact Nat.le_refl _⟩, ⟨by (with_reducible repeat (first | apply Kd.R_alloc | apply Kd.R_drewN | apply Kd.R_drew)); exact Kd.R_mono HO314.out (fun _ hk => hk.1.1.2)⟩, ⟨by (with_reducible repeat (first | apply Kd.R_alloc | apply Kd.R_drewN | apply Kd.R_drew)); exact Kd.R_mono HO318.out (fun _ hk => hk.1.1.2)⟩, ⟨by repeat (first | (with_reducible first | exact HB.out | apply below_alloc | apply pw_below_drewN | apply below_drew1) | exact HB.out)⟩⟩
                · replace c43 := Bool.eq_false_iff.mpr c43
                  subst c43
                  have H1 : (if t320 = 20 then (fullerlaw02_ShapeJoins.j1 kj3 l0 l1 t310 t311 t312 t315 t316 (t324 == 20)) else (fullerlaw02_ShapeJoins.j1 kj3 l0 l1 t310 t311 t312 t315 t316 false)) = some r := by rw [if_neg (show ¬ (false = true) by decide)] at H; exact H
                  clear H
                  have H := H1
                  clear H1
                  by_cases c44 : t320 = 20
                  · rw [if_pos c44] at H
                    have c44b0 : (t320 == 20) = true := beq_iff_eq.mpr c44
                    have c44b1 : (t320 != 20) = false := bne_eq_false_iff_eq.mpr c44
                    clear c44
                    have H' := Aside0.mk H
                    clear H
                    go_wp2_with (first | ((with_reducible refine gate_callee (f := 18) rfl ?_); refine goesL_ (some 49) rfl rfl Try.func18 (by kernel_rfl) rfl #[.slice A0 l0.length c0] rfl (by (try simp only [List.map_toArray, List.map_cons, List.map_nil]); first | done | rfl | (simp only [List.length_drop, List.length_take]; rfl)) ?_; (with_reducible refine (shape_Check.calls kj3 _ _ l0 true _ ?side1 ?side2 A17.out).mono ?_); (case side1 => repeat (first | exact (Kd.C_below HR0.out HB.out) | (with_reducible refine Kd.C_alloc ?_ _) | (with_reducible refine Kd.C_drewN ?_ _) | (with_reducible refine Kd.C_drew ?_))); (case side2 => exact HC0.out); rintro e w' ⟨rfl, ⟨nd, rfl⟩⟩; refine ⟨_, rfl, ?_⟩) | (go_at_call 18; (with_reducible refine (shape_Check.calls kj3 _ _ l0 false _ ?side1 ?side2 A42.out).mono ?_); (case side1 => repeat (first | exact (Kd.C_below HR0.out (by repeat (first | (with_reducible first | exact HB.out | apply below_alloc | apply pw_below_drewN | apply below_drew1) | exact HB.out))) | (with_reducible refine Kd.C_alloc ?_ _) | (with_reducible refine Kd.C_drewN ?_ _) | (with_reducible refine Kd.C_drew ?_))); (case side2 => exact HC0.out); rintro e w' ⟨rfl, ⟨nd, rfl⟩⟩))
                    go_meet
                    case rel => exact ⟨_, ((t324 == 20)), (by first | rfl | (simp; done) | (simp [*]; done)), H', ⟨by have := HJ3.out; first | omega | exact Nat.le_refl _⟩, ⟨by (with_reducible repeat (first | apply Kd.R_alloc | apply Kd.R_drewN | apply Kd.R_drew)); exact Kd.R_mono HO314.out (fun _ hk => hk.1.1.2)⟩, ⟨by (with_reducible repeat (first | apply Kd.R_alloc | apply Kd.R_drewN | apply Kd.R_drew)); exact Kd.R_mono HO318.out (fun _ hk => hk.1.1.2)⟩, ⟨by repeat (first | (with_reducible first | exact HB.out | apply below_alloc | apply pw_below_drewN | apply below_drew1) | exact HB.out)⟩⟩
                  · rw [if_neg c44] at H
                    have c44b0 : (t320 == 20) = false := beq_eq_false_iff_ne.mpr c44
                    have c44b1 : (t320 != 20) = true := bne_iff_ne.mpr c44
                    have H' := Aside0.mk H
                    clear H
                    go_wp2_with (first | ((with_reducible refine gate_callee (f := 18) rfl ?_); refine goesL_ (some 49) rfl rfl Try.func18 (by kernel_rfl) rfl #[.slice A0 l0.length c0] rfl (by (try simp only [List.map_toArray, List.map_cons, List.map_nil]); first | done | rfl | (simp only [List.length_drop, List.length_take]; rfl)) ?_; (with_reducible refine (shape_Check.calls kj3 _ _ l0 true _ ?side1 ?side2 A17.out).mono ?_); (case side1 => repeat (first | exact (Kd.C_below HR0.out HB.out) | (with_reducible refine Kd.C_alloc ?_ _) | (with_reducible refine Kd.C_drewN ?_ _) | (with_reducible refine Kd.C_drew ?_))); (case side2 => exact HC0.out); rintro e w' ⟨rfl, ⟨nd, rfl⟩⟩; refine ⟨_, rfl, ?_⟩) | (go_at_call 18; (with_reducible refine (shape_Check.calls kj3 _ _ l0 false _ ?side1 ?side2 A42.out).mono ?_); (case side1 => repeat (first | exact (Kd.C_below HR0.out (by repeat (first | (with_reducible first | exact HB.out | apply below_alloc | apply pw_below_drewN | apply below_drew1) | exact HB.out))) | (with_reducible refine Kd.C_alloc ?_ _) | (with_reducible refine Kd.C_drewN ?_ _) | (with_reducible refine Kd.C_drew ?_))); (case side2 => exact HC0.out); rintro e w' ⟨rfl, ⟨nd, rfl⟩⟩))
                    go_meet
                    case rel => exact ⟨_, (false), (by first | rfl | (simp; done) | (simp [*]; done)), H', ⟨by have := HJ3.out; first | omega | exact Nat.le_refl _⟩, ⟨by (with_reducible repeat (first | apply Kd.R_alloc | apply Kd.R_drewN | apply Kd.R_drew)); exact Kd.R_mono HO314.out (fun _ hk => hk.1.1.2)⟩, ⟨by (with_reducible repeat (first | apply Kd.R_alloc | apply Kd.R_drewN | apply Kd.R_drew)); exact Kd.R_mono HO318.out (fun _ hk => hk.1.1.2)⟩, ⟨by repeat (first | (with_reducible first | exact HB.out | apply below_alloc | apply pw_below_drewN | apply below_drew1) | exact HB.out)⟩⟩
            · rw [if_neg c19] at H
              have c19b0 : (t320 == 0) = false := beq_eq_false_iff_ne.mpr c19
              have c19b1 : (t320 != 0) = true := bne_iff_ne.mpr c19
              (first | rw [c19b0] | (simp only [i64_w, i32_w]; rw [c19b0]) | skip)
              replace H := Option.bind_eq_some_iff.mp H
              obtain ⟨t333, A450, H⟩ := H
              replace H : (if t333 = true then (fullerlaw02_ShapeJoins.j1 kj3 l0 l1 t310 t311 t312 t315 t316 false) else (if t320 = 20 then (fullerlaw02_ShapeJoins.j1 kj3 l0 l1 t310 t311 t312 t315 t316 (t324 == 20)) else (fullerlaw02_ShapeJoins.j1 kj3 l0 l1 t310 t311 t312 t315 t316 false))) = some r := H
              have A45 := Aside0.mk A450
              clear A450
              by_cases c46 : t333 = true
              · subst c46
                have H1 : (fullerlaw02_ShapeJoins.j1 kj3 l0 l1 t310 t311 t312 t315 t316 false) = some r := by rw [if_pos rfl] at H; exact H
                clear H
                have H := H1
                clear H1
                have H' := Aside0.mk H
                clear H
                go_wp2_with (first | ((with_reducible refine gate_callee (f := 18) rfl ?_); refine goesL_ (some 49) rfl rfl Try.func18 (by kernel_rfl) rfl #[.slice A0 l0.length c0] rfl (by (try simp only [List.map_toArray, List.map_cons, List.map_nil]); first | done | rfl | (simp only [List.length_drop, List.length_take]; rfl)) ?_; (with_reducible refine (shape_Check.calls kj3 _ _ l0 true _ ?side1 ?side2 A17.out).mono ?_); (case side1 => repeat (first | exact (Kd.C_below HR0.out HB.out) | (with_reducible refine Kd.C_alloc ?_ _) | (with_reducible refine Kd.C_drewN ?_ _) | (with_reducible refine Kd.C_drew ?_))); (case side2 => exact HC0.out); rintro e w' ⟨rfl, ⟨nd, rfl⟩⟩; refine ⟨_, rfl, ?_⟩) | (go_at_call 18; (with_reducible refine (shape_Check.calls kj3 _ _ l0 true _ ?side1 ?side2 A45.out).mono ?_); (case side1 => repeat (first | exact (Kd.C_below HR0.out (by repeat (first | (with_reducible first | exact HB.out | apply below_alloc | apply pw_below_drewN | apply below_drew1) | exact HB.out))) | (with_reducible refine Kd.C_alloc ?_ _) | (with_reducible refine Kd.C_drewN ?_ _) | (with_reducible refine Kd.C_drew ?_))); (case side2 => exact HC0.out); rintro e w' ⟨rfl, ⟨nd, rfl⟩⟩))
                go_meet
                case rel => exact ⟨_, (false), (by first | rfl | (simp; done) | (simp [*]; done)), H', ⟨by have := HJ3.out; first | omega | exact Nat.le_refl _⟩, ⟨by (with_reducible repeat (first | apply Kd.R_alloc | apply Kd.R_drewN | apply Kd.R_drew)); exact Kd.R_mono HO314.out (fun _ hk => hk.1.1.2)⟩, ⟨by (with_reducible repeat (first | apply Kd.R_alloc | apply Kd.R_drewN | apply Kd.R_drew)); exact Kd.R_mono HO318.out (fun _ hk => hk.1.1.2)⟩, ⟨by repeat (first | (with_reducible first | exact HB.out | apply below_alloc | apply pw_below_drewN | apply below_drew1) | exact HB.out)⟩⟩
              · replace c46 := Bool.eq_false_iff.mpr c46
                subst c46
                have H1 : (if t320 = 20 then (fullerlaw02_ShapeJoins.j1 kj3 l0 l1 t310 t311 t312 t315 t316 (t324 == 20)) else (fullerlaw02_ShapeJoins.j1 kj3 l0 l1 t310 t311 t312 t315 t316 false)) = some r := by rw [if_neg (show ¬ (false = true) by decide)] at H; exact H
                clear H
                have H := H1
                clear H1
                by_cases c47 : t320 = 20
                · rw [if_pos c47] at H
                  have c47b0 : (t320 == 20) = true := beq_iff_eq.mpr c47
                  have c47b1 : (t320 != 20) = false := bne_eq_false_iff_eq.mpr c47
                  clear c47
                  have H' := Aside0.mk H
                  clear H
                  go_wp2_with (first | ((with_reducible refine gate_callee (f := 18) rfl ?_); refine goesL_ (some 49) rfl rfl Try.func18 (by kernel_rfl) rfl #[.slice A0 l0.length c0] rfl (by (try simp only [List.map_toArray, List.map_cons, List.map_nil]); first | done | rfl | (simp only [List.length_drop, List.length_take]; rfl)) ?_; (with_reducible refine (shape_Check.calls kj3 _ _ l0 true _ ?side1 ?side2 A17.out).mono ?_); (case side1 => repeat (first | exact (Kd.C_below HR0.out HB.out) | (with_reducible refine Kd.C_alloc ?_ _) | (with_reducible refine Kd.C_drewN ?_ _) | (with_reducible refine Kd.C_drew ?_))); (case side2 => exact HC0.out); rintro e w' ⟨rfl, ⟨nd, rfl⟩⟩; refine ⟨_, rfl, ?_⟩) | (go_at_call 18; (with_reducible refine (shape_Check.calls kj3 _ _ l0 false _ ?side1 ?side2 A45.out).mono ?_); (case side1 => repeat (first | exact (Kd.C_below HR0.out (by repeat (first | (with_reducible first | exact HB.out | apply below_alloc | apply pw_below_drewN | apply below_drew1) | exact HB.out))) | (with_reducible refine Kd.C_alloc ?_ _) | (with_reducible refine Kd.C_drewN ?_ _) | (with_reducible refine Kd.C_drew ?_))); (case side2 => exact HC0.out); rintro e w' ⟨rfl, ⟨nd, rfl⟩⟩))
                  go_meet
                  case rel => exact ⟨_, ((t324 == 20)), (by first | rfl | (simp; done) | (simp [*]; done)), H', ⟨by have := HJ3.out; first | omega | exact Nat.le_refl _⟩, ⟨by (with_reducible repeat (first | apply Kd.R_alloc | apply Kd.R_drewN | apply Kd.R_drew)); exact Kd.R_mono HO314.out (fun _ hk => hk.1.1.2)⟩, ⟨by (with_reducible repeat (first | apply Kd.R_alloc | apply Kd.R_drewN | apply Kd.R_drew)); exact Kd.R_mono HO318.out (fun _ hk => hk.1.1.2)⟩, ⟨by repeat (first | (with_reducible first | exact HB.out | apply below_alloc | apply pw_below_drewN | apply below_drew1) | exact HB.out)⟩⟩
                · rw [if_neg c47] at H
                  have c47b0 : (t320 == 20) = false := beq_eq_false_iff_ne.mpr c47
                  have c47b1 : (t320 != 20) = true := bne_iff_ne.mpr c47
                  have H' := Aside0.mk H
                  clear H
                  go_wp2_with (first | ((with_reducible refine gate_callee (f := 18) rfl ?_); refine goesL_ (some 49) rfl rfl Try.func18 (by kernel_rfl) rfl #[.slice A0 l0.length c0] rfl (by (try simp only [List.map_toArray, List.map_cons, List.map_nil]); first | done | rfl | (simp only [List.length_drop, List.length_take]; rfl)) ?_; (with_reducible refine (shape_Check.calls kj3 _ _ l0 true _ ?side1 ?side2 A17.out).mono ?_); (case side1 => repeat (first | exact (Kd.C_below HR0.out HB.out) | (with_reducible refine Kd.C_alloc ?_ _) | (with_reducible refine Kd.C_drewN ?_ _) | (with_reducible refine Kd.C_drew ?_))); (case side2 => exact HC0.out); rintro e w' ⟨rfl, ⟨nd, rfl⟩⟩; refine ⟨_, rfl, ?_⟩) | (go_at_call 18; (with_reducible refine (shape_Check.calls kj3 _ _ l0 false _ ?side1 ?side2 A45.out).mono ?_); (case side1 => repeat (first | exact (Kd.C_below HR0.out (by repeat (first | (with_reducible first | exact HB.out | apply below_alloc | apply pw_below_drewN | apply below_drew1) | exact HB.out))) | (with_reducible refine Kd.C_alloc ?_ _) | (with_reducible refine Kd.C_drewN ?_ _) | (with_reducible refine Kd.C_drew ?_))); (case side2 => exact HC0.out); rintro e w' ⟨rfl, ⟨nd, rfl⟩⟩))
                  go_meet
                  case rel => exact ⟨_, (false), (by first | rfl | (simp; done) | (simp [*]; done)), H', ⟨by have := HJ3.out; first | omega | exact Nat.le_refl _⟩, ⟨by (with_reducible repeat (first | apply Kd.R_alloc | apply Kd.R_drewN | apply Kd.R_drew)); exact Kd.R_mono HO314.out (fun _ hk => hk.1.1.2)⟩, ⟨by (with_reducible repeat (first | apply Kd.R_alloc | apply Kd.R_drewN | apply Kd.R_drew)); exact Kd.R_mono HO318.out (fun _ hk => hk.1.1.2)⟩, ⟨by repeat (first | (with_reducible first | exact HB.out | apply below_alloc | apply pw_below_drewN | apply below_drew1) | exact HB.out)⟩⟩
          · replace c18 := Bool.eq_false_iff.mpr c18
            subst c18
            have H1 : ((shape_Check.f kj3 l0).bind fun t334 => (if t334 = true then (fullerlaw02_ShapeJoins.j1 kj3 l0 l1 t310 t311 t312 t315 t316 false) else (if t320 = 20 then (fullerlaw02_ShapeJoins.j1 kj3 l0 l1 t310 t311 t312 t315 t316 (t324 == 20)) else (fullerlaw02_ShapeJoins.j1 kj3 l0 l1 t310 t311 t312 t315 t316 false)))) = some r := by rw [if_neg (show ¬ (false = true) by decide)] at H; exact H
            clear H
            have H := H1
            clear H1
            replace H := Option.bind_eq_some_iff.mp H
            obtain ⟨t334, A480, H⟩ := H
            replace H : (if t334 = true then (fullerlaw02_ShapeJoins.j1 kj3 l0 l1 t310 t311 t312 t315 t316 false) else (if t320 = 20 then (fullerlaw02_ShapeJoins.j1 kj3 l0 l1 t310 t311 t312 t315 t316 (t324 == 20)) else (fullerlaw02_ShapeJoins.j1 kj3 l0 l1 t310 t311 t312 t315 t316 false))) = some r := H
            have A48 := Aside0.mk A480
            clear A480
            by_cases c49 : t334 = true
            · subst c49
              have H1 : (fullerlaw02_ShapeJoins.j1 kj3 l0 l1 t310 t311 t312 t315 t316 false) = some r := by rw [if_pos rfl] at H; exact H
              clear H
              have H := H1
              clear H1
              have H' := Aside0.mk H
              clear H
              go_wp2_with (first | ((with_reducible refine gate_callee (f := 18) rfl ?_); refine goesL_ (some 49) rfl rfl Try.func18 (by kernel_rfl) rfl #[.slice A0 l0.length c0] rfl (by (try simp only [List.map_toArray, List.map_cons, List.map_nil]); first | done | rfl | (simp only [List.length_drop, List.length_take]; rfl)) ?_; (with_reducible refine (shape_Check.calls kj3 _ _ l0 false _ ?side1 ?side2 A17.out).mono ?_); (case side1 => repeat (first | exact (Kd.C_below HR0.out HB.out) | (with_reducible refine Kd.C_alloc ?_ _) | (with_reducible refine Kd.C_drewN ?_ _) | (with_reducible refine Kd.C_drew ?_))); (case side2 => exact HC0.out); rintro e w' ⟨rfl, ⟨nd, rfl⟩⟩; refine ⟨_, rfl, ?_⟩) | (go_at_call 18; (with_reducible refine (shape_Check.calls kj3 _ _ l0 true _ ?side1 ?side2 A48.out).mono ?_); (case side1 => repeat (first | exact (Kd.C_below HR0.out (by repeat (first | (with_reducible first | exact HB.out | apply below_alloc | apply pw_below_drewN | apply below_drew1) | exact HB.out))) | (with_reducible refine Kd.C_alloc ?_ _) | (with_reducible refine Kd.C_drewN ?_ _) | (with_reducible refine Kd.C_drew ?_))); (case side2 => exact HC0.out); rintro e w' ⟨rfl, ⟨nd, rfl⟩⟩))
              go_meet
              case rel => exact ⟨_, (false), (by first | rfl | (simp; done) | (simp [*]; done)), H', ⟨by have := HJ3.out; first | omega | exact Nat.le_refl _⟩, ⟨by (with_reducible repeat (first | apply Kd.R_alloc | apply Kd.R_drewN | apply Kd.R_drew)); exact Kd.R_mono HO314.out (fun _ hk => hk.1.1.2)⟩, ⟨by (with_reducible repeat (first | apply Kd.R_alloc | apply Kd.R_drewN | apply Kd.R_drew)); exact Kd.R_mono HO318.out (fun _ hk => hk.1.1.2)⟩, ⟨by repeat (first | (with_reducible first | exact HB.out | apply below_alloc | apply pw_below_drewN | apply below_drew1) | exact HB.out)⟩⟩
            · replace c49 := Bool.eq_false_iff.mpr c49
              subst c49
              have H1 : (if t320 = 20 then (fullerlaw02_ShapeJoins.j1 kj3 l0 l1 t310 t311 t312 t315 t316 (t324 == 20)) else (fullerlaw02_ShapeJoins.j1 kj3 l0 l1 t310 t311 t312 t315 t316 false)) = some r := by rw [if_neg (show ¬ (false = true) by decide)] at H; exact H
              clear H
              have H := H1
              clear H1
              by_cases c50 : t320 = 20
              · rw [if_pos c50] at H
                have c50b0 : (t320 == 20) = true := beq_iff_eq.mpr c50
                have c50b1 : (t320 != 20) = false := bne_eq_false_iff_eq.mpr c50
                clear c50
                have H' := Aside0.mk H
                clear H
                go_wp2_with (first | ((with_reducible refine gate_callee (f := 18) rfl ?_); refine goesL_ (some 49) rfl rfl Try.func18 (by kernel_rfl) rfl #[.slice A0 l0.length c0] rfl (by (try simp only [List.map_toArray, List.map_cons, List.map_nil]); first | done | rfl | (simp only [List.length_drop, List.length_take]; rfl)) ?_; (with_reducible refine (shape_Check.calls kj3 _ _ l0 false _ ?side1 ?side2 A17.out).mono ?_); (case side1 => repeat (first | exact (Kd.C_below HR0.out HB.out) | (with_reducible refine Kd.C_alloc ?_ _) | (with_reducible refine Kd.C_drewN ?_ _) | (with_reducible refine Kd.C_drew ?_))); (case side2 => exact HC0.out); rintro e w' ⟨rfl, ⟨nd, rfl⟩⟩; refine ⟨_, rfl, ?_⟩) | (go_at_call 18; (with_reducible refine (shape_Check.calls kj3 _ _ l0 false _ ?side1 ?side2 A48.out).mono ?_); (case side1 => repeat (first | exact (Kd.C_below HR0.out (by repeat (first | (with_reducible first | exact HB.out | apply below_alloc | apply pw_below_drewN | apply below_drew1) | exact HB.out))) | (with_reducible refine Kd.C_alloc ?_ _) | (with_reducible refine Kd.C_drewN ?_ _) | (with_reducible refine Kd.C_drew ?_))); (case side2 => exact HC0.out); rintro e w' ⟨rfl, ⟨nd, rfl⟩⟩))
                go_meet
                case rel => exact ⟨_, ((t324 == 20)), (by first | rfl | (simp; done) | (simp [*]; done)), H', ⟨by have := HJ3.out; first | omega | exact Nat.le_refl _⟩, ⟨by (with_reducible repeat (first | apply Kd.R_alloc | apply Kd.R_drewN | apply Kd.R_drew)); exact Kd.R_mono HO314.out (fun _ hk => hk.1.1.2)⟩, ⟨by (with_reducible repeat (first | apply Kd.R_alloc | apply Kd.R_drewN | apply Kd.R_drew)); exact Kd.R_mono HO318.out (fun _ hk => hk.1.1.2)⟩, ⟨by repeat (first | (with_reducible first | exact HB.out | apply below_alloc | apply pw_below_drewN | apply below_drew1) | exact HB.out)⟩⟩
              · rw [if_neg c50] at H
                have c50b0 : (t320 == 20) = false := beq_eq_false_iff_ne.mpr c50
                have c50b1 : (t320 != 20) = true := bne_iff_ne.mpr c50
                have H' := Aside0.mk H
                clear H
                go_wp2_with (first | ((with_reducible refine gate_callee (f := 18) rfl ?_); refine goesL_ (some 49) rfl rfl Try.func18 (by kernel_rfl) rfl #[.slice A0 l0.length c0] rfl (by (try simp only [List.map_toArray, List.map_cons, List.map_nil]); first | done | rfl | (simp only [List.length_drop, List.length_take]; rfl)) ?_; (with_reducible refine (shape_Check.calls kj3 _ _ l0 false _ ?side1 ?side2 A17.out).mono ?_); (case side1 => repeat (first | exact (Kd.C_below HR0.out HB.out) | (with_reducible refine Kd.C_alloc ?_ _) | (with_reducible refine Kd.C_drewN ?_ _) | (with_reducible refine Kd.C_drew ?_))); (case side2 => exact HC0.out); rintro e w' ⟨rfl, ⟨nd, rfl⟩⟩; refine ⟨_, rfl, ?_⟩) | (go_at_call 18; (with_reducible refine (shape_Check.calls kj3 _ _ l0 false _ ?side1 ?side2 A48.out).mono ?_); (case side1 => repeat (first | exact (Kd.C_below HR0.out (by repeat (first | (with_reducible first | exact HB.out | apply below_alloc | apply pw_below_drewN | apply below_drew1) | exact HB.out))) | (with_reducible refine Kd.C_alloc ?_ _) | (with_reducible refine Kd.C_drewN ?_ _) | (with_reducible refine Kd.C_drew ?_))); (case side2 => exact HC0.out); rintro e w' ⟨rfl, ⟨nd, rfl⟩⟩))
                go_meet
                case rel => exact ⟨_, (false), (by first | rfl | (simp; done) | (simp [*]; done)), H', ⟨by have := HJ3.out; first | omega | exact Nat.le_refl _⟩, ⟨by (with_reducible repeat (first | apply Kd.R_alloc | apply Kd.R_drewN | apply Kd.R_drew)); exact Kd.R_mono HO314.out (fun _ hk => hk.1.1.2)⟩, ⟨by (with_reducible repeat (first | apply Kd.R_alloc | apply Kd.R_drewN | apply Kd.R_drew)); exact Kd.R_mono HO318.out (fun _ hk => hk.1.1.2)⟩, ⟨by repeat (first | (with_reducible first | exact HB.out | apply below_alloc | apply pw_below_drewN | apply below_drew1) | exact HB.out)⟩⟩
        case rest =>
          clear HC12
          try clear c1
          try clear c2
          try clear p2
          try clear c3
          try clear c4
          try clear c5
          try clear c6
          try clear c6b0
          try clear c6b1
          try clear c7
          try clear c10
          try clear c15
          try clear c18
          try clear c19
          try clear c19b0
          try clear c19b1
          try clear c20
          try clear c20b0
          try clear c20b1
          try clear c22
          try clear c24
          try clear c28
          try clear c31
          try clear c31b0
          try clear c31b1
          try clear c37
          try clear c39
          try clear c39b0
          try clear c39b1
          try clear c43
          try clear c44
          try clear c44b0
          try clear c44b1
          try clear c46
          try clear c47
          try clear c47b0
          try clear c47b1
          try clear c49
          try clear c50
          try clear c50b0
          try clear c50b1
          try clear p2
          obtain ⟨kq, x14_11, rfl, HA, HJ11, HO_6, HO_8, HB⟩ := hcut
          cases kq with
          | zero => exact absurd HA.out (by simp [fullerlaw02_ShapeJoins.j1])
          | succ kj11 =>
            have H := HA.out
            clear HA
            simp only [fullerlaw02_ShapeJoins.j1] at H
            by_cases c51 : t312 = 0
            · rw [if_pos c51] at H
              have c51b0 : (t312 == 0) = true := beq_iff_eq.mpr c51
              have c51b1 : (t312 != 0) = false := bne_eq_false_iff_eq.mpr c51
              clear c51
              by_cases c52 : t310 = true
              · subst c52
                have H1 : (if t316 = 0 then (if x14_11 = true then ((fullerref02_Same.f kj11 t311 t315).bind fun t337 => (if t337 = true then ((shape_Fits.f kj11 l0 t311).bind fun t338 => (if t338 = true then ((shape_Fits.f kj11 l1 t311).bind fun t339 => (if t339 = true then ((shape_Check.f kj11 t311).bind fun t340 => (some t340)) else (some false))) else (some false))) else (some false))) else (some false)) else (some false)) = some r := by rw [if_pos rfl] at H; exact H
                clear H
                have H := H1
                clear H1
                by_cases c53 : t316 = 0
                · rw [if_pos c53] at H
                  have c53b0 : (t316 == 0) = true := beq_iff_eq.mpr c53
                  have c53b1 : (t316 != 0) = false := bne_eq_false_iff_eq.mpr c53
                  clear c53
                  by_cases c54 : x14_11 = true
                  · subst c54
                    have H1 : ((fullerref02_Same.f kj11 t311 t315).bind fun t337 => (if t337 = true then ((shape_Fits.f kj11 l0 t311).bind fun t338 => (if t338 = true then ((shape_Fits.f kj11 l1 t311).bind fun t339 => (if t339 = true then ((shape_Check.f kj11 t311).bind fun t340 => (some t340)) else (some false))) else (some false))) else (some false))) = some r := by rw [if_pos rfl] at H; exact H
                    clear H
                    have H := H1
                    clear H1
                    replace H := Option.bind_eq_some_iff.mp H
                    obtain ⟨t337, A550, H⟩ := H
                    replace H : (if t337 = true then ((shape_Fits.f kj11 l0 t311).bind fun t338 => (if t338 = true then ((shape_Fits.f kj11 l1 t311).bind fun t339 => (if t339 = true then ((shape_Check.f kj11 t311).bind fun t340 => (some t340)) else (some false))) else (some false))) else (some false)) = some r := H
                    have A55 := Aside0.mk A550
                    clear A550
                    by_cases c56 : t337 = true
                    · subst c56
                      have H1 : ((shape_Fits.f kj11 l0 t311).bind fun t338 => (if t338 = true then ((shape_Fits.f kj11 l1 t311).bind fun t339 => (if t339 = true then ((shape_Check.f kj11 t311).bind fun t340 => (some t340)) else (some false))) else (some false))) = some r := by rw [if_pos rfl] at H; exact H
                      clear H
                      have H := H1
                      clear H1
                      replace H := Option.bind_eq_some_iff.mp H
                      obtain ⟨t338, A570, H⟩ := H
                      replace H : (if t338 = true then ((shape_Fits.f kj11 l1 t311).bind fun t339 => (if t339 = true then ((shape_Check.f kj11 t311).bind fun t340 => (some t340)) else (some false))) else (some false)) = some r := H
                      have A57 := Aside0.mk A570
                      clear A570
                      by_cases c58 : t338 = true
                      · subst c58
                        have H1 : ((shape_Fits.f kj11 l1 t311).bind fun t339 => (if t339 = true then ((shape_Check.f kj11 t311).bind fun t340 => (some t340)) else (some false))) = some r := by rw [if_pos rfl] at H; exact H
                        clear H
                        have H := H1
                        clear H1
                        replace H := Option.bind_eq_some_iff.mp H
                        obtain ⟨t339, A590, H⟩ := H
                        replace H : (if t339 = true then ((shape_Check.f kj11 t311).bind fun t340 => (some t340)) else (some false)) = some r := H
                        have A59 := Aside0.mk A590
                        clear A590
                        by_cases c60 : t339 = true
                        · subst c60
                          have H1 : ((shape_Check.f kj11 t311).bind fun t340 => (some t340)) = some r := by rw [if_pos rfl] at H; exact H
                          clear H
                          have H := H1
                          clear H1
                          replace H := Option.bind_eq_some_iff.mp H
                          obtain ⟨t340, A610, H⟩ := H
                          replace H : (some t340) = some r := H
                          have A61 := Aside0.mk A610
                          clear A610
                          obtain rfl := Option.some.inj H
                          obtain ⟨Ao62, co62, eo62⟩ := Kd.R_slice HO_6.out
                          subst eo62
                          obtain ⟨Ao63, co63, eo63⟩ := Kd.R_slice HO_8.out
                          subst eo63
                          go_wp2_with (first | (go_at_call 17; (with_reducible refine (fullerref02_Same.calls kj11 _ _ t311 _ _ t315 true _ ?side1 ?side2 ?side3 ?side4 A55.out).mono ?_); (case side1 => repeat (first | exact (Kd.R_reads' HO_6.out).2.2 | (with_reducible refine Kd.C_alloc ?_ _) | (with_reducible refine Kd.C_drewN ?_ _) | (with_reducible refine Kd.C_drew ?_))); (case side2 => exact (Kd.R_reads' HO_6.out).2.1); (case side3 => repeat (first | exact (Kd.R_reads' HO_8.out).2.2 | (with_reducible refine Kd.C_alloc ?_ _) | (with_reducible refine Kd.C_drewN ?_ _) | (with_reducible refine Kd.C_drew ?_))); (case side4 => exact (Kd.R_reads' HO_8.out).2.1); rintro e w' ⟨rfl, ⟨nd, rfl⟩⟩) | (go_at_call 22; (with_reducible refine (shape_Fits.calls kj11 _ _ l0 _ _ t311 true _ ?side1 ?side2 ?side3 ?side4 A57.out).mono ?_); (case side1 => repeat (first | exact (Kd.C_below HR0.out (by repeat (first | (with_reducible first | exact HB.out | apply below_alloc | apply pw_below_drewN | apply below_drew1) | exact HB.out))) | (with_reducible refine Kd.C_alloc ?_ _) | (with_reducible refine Kd.C_drewN ?_ _) | (with_reducible refine Kd.C_drew ?_))); (case side2 => exact HC0.out); (case side3 => repeat (first | exact (Kd.R_reads' HO_6.out).2.2 | (with_reducible refine Kd.C_alloc ?_ _) | (with_reducible refine Kd.C_drewN ?_ _) | (with_reducible refine Kd.C_drew ?_))); (case side4 => exact (Kd.R_reads' HO_6.out).2.1); rintro e w64 ⟨rfl, hb⟩; have n0_ := Aside0.mk (Kd.R_below (by (with_reducible repeat (first | apply Kd.R_alloc | apply Kd.R_drewN | apply Kd.R_drew)); exact HO_6.out) hb); have n1_ := Aside0.mk (Kd.R_below (by (with_reducible repeat (first | apply Kd.R_alloc | apply Kd.R_drewN | apply Kd.R_drew)); exact HO_8.out) hb); have n2_ := Aside0.mk (below_step (by repeat (first | (with_reducible first | exact HB.out | apply below_alloc | apply pw_below_drewN | apply below_drew1) | exact HB.out)) hb); clear HO_6; clear HO_8; clear HB; have HO_6 := n0_; have HO_8 := n1_; have HB := n2_; clear n0_ n1_ n2_; (try clear hb); (try clear hb2); (try clear hk); (try clear hi)) | (go_at_call 22; (with_reducible refine (shape_Fits.calls kj11 _ _ l1 _ _ t311 true _ ?side1 ?side2 ?side3 ?side4 A59.out).mono ?_); (case side1 => repeat (first | exact (Kd.C_below HR1.out HB.out) | (with_reducible refine Kd.C_alloc ?_ _) | (with_reducible refine Kd.C_drewN ?_ _) | (with_reducible refine Kd.C_drew ?_))); (case side2 => exact HC1.out); (case side3 => repeat (first | exact (Kd.R_reads' HO_6.out).2.2 | (with_reducible refine Kd.C_alloc ?_ _) | (with_reducible refine Kd.C_drewN ?_ _) | (with_reducible refine Kd.C_drew ?_))); (case side4 => exact (Kd.R_reads' HO_6.out).2.1); rintro e w65 ⟨rfl, hb⟩; have n0_ := Aside0.mk (Kd.R_below (by (with_reducible repeat (first | apply Kd.R_alloc | apply Kd.R_drewN | apply Kd.R_drew)); exact HO_6.out) hb); have n1_ := Aside0.mk (Kd.R_below (by (with_reducible repeat (first | apply Kd.R_alloc | apply Kd.R_drewN | apply Kd.R_drew)); exact HO_8.out) hb); have n2_ := Aside0.mk (below_step (by repeat (first | (with_reducible first | exact HB.out | apply below_alloc | apply pw_below_drewN | apply below_drew1) | exact HB.out)) hb); clear HO_6; clear HO_8; clear HB; have HO_6 := n0_; have HO_8 := n1_; have HB := n2_; clear n0_ n1_ n2_; (try clear hb); (try clear hb2); (try clear hk); (try clear hi)) | (go_at_call 18; (with_reducible refine (shape_Check.calls kj11 _ _ t311 t340 _ ?side1 ?side2 A61.out).mono ?_); (case side1 => repeat (first | exact (Kd.R_reads' HO_6.out).2.2 | (with_reducible refine Kd.C_alloc ?_ _) | (with_reducible refine Kd.C_drewN ?_ _) | (with_reducible refine Kd.C_drew ?_))); (case side2 => exact (Kd.R_reads' HO_6.out).2.1); rintro e w' ⟨rfl, ⟨nd, rfl⟩⟩))
                          go_ret
                          exact ⟨by first | rfl | (simp [errW_none, errW_some] <;> rfl) | (simp [*, errW_none, errW_some] <;> rfl), by repeat (first | (with_reducible first | exact HB.out | apply below_alloc | apply pw_below_drewN | apply below_drew1) | exact HB.out)⟩
                        · replace c60 := Bool.eq_false_iff.mpr c60
                          subst c60
                          have H1 : (some false) = some r := by rw [if_neg (show ¬ (false = true) by decide)] at H; exact H
                          clear H
                          have H := H1
                          clear H1
                          obtain rfl := Option.some.inj H
                          obtain ⟨Ao66, co66, eo66⟩ := Kd.R_slice HO_6.out
                          subst eo66
                          obtain ⟨Ao67, co67, eo67⟩ := Kd.R_slice HO_8.out
                          subst eo67
                          go_wp2_with (first | (go_at_call 17; (with_reducible refine (fullerref02_Same.calls kj11 _ _ t311 _ _ t315 true _ ?side1 ?side2 ?side3 ?side4 A55.out).mono ?_); (case side1 => repeat (first | exact (Kd.R_reads' HO_6.out).2.2 | (with_reducible refine Kd.C_alloc ?_ _) | (with_reducible refine Kd.C_drewN ?_ _) | (with_reducible refine Kd.C_drew ?_))); (case side2 => exact (Kd.R_reads' HO_6.out).2.1); (case side3 => repeat (first | exact (Kd.R_reads' HO_8.out).2.2 | (with_reducible refine Kd.C_alloc ?_ _) | (with_reducible refine Kd.C_drewN ?_ _) | (with_reducible refine Kd.C_drew ?_))); (case side4 => exact (Kd.R_reads' HO_8.out).2.1); rintro e w' ⟨rfl, ⟨nd, rfl⟩⟩) | (go_at_call 22; (with_reducible refine (shape_Fits.calls kj11 _ _ l0 _ _ t311 true _ ?side1 ?side2 ?side3 ?side4 A57.out).mono ?_); (case side1 => repeat (first | exact (Kd.C_below HR0.out (by repeat (first | (with_reducible first | exact HB.out | apply below_alloc | apply pw_below_drewN | apply below_drew1) | exact HB.out))) | (with_reducible refine Kd.C_alloc ?_ _) | (with_reducible refine Kd.C_drewN ?_ _) | (with_reducible refine Kd.C_drew ?_))); (case side2 => exact HC0.out); (case side3 => repeat (first | exact (Kd.R_reads' HO_6.out).2.2 | (with_reducible refine Kd.C_alloc ?_ _) | (with_reducible refine Kd.C_drewN ?_ _) | (with_reducible refine Kd.C_drew ?_))); (case side4 => exact (Kd.R_reads' HO_6.out).2.1); rintro e w68 ⟨rfl, hb⟩; have n0_ := Aside0.mk (Kd.R_below (by (with_reducible repeat (first | apply Kd.R_alloc | apply Kd.R_drewN | apply Kd.R_drew)); exact HO_6.out) hb); have n1_ := Aside0.mk (Kd.R_below (by (with_reducible repeat (first | apply Kd.R_alloc | apply Kd.R_drewN | apply Kd.R_drew)); exact HO_8.out) hb); have n2_ := Aside0.mk (below_step (by repeat (first | (with_reducible first | exact HB.out | apply below_alloc | apply pw_below_drewN | apply below_drew1) | exact HB.out)) hb); clear HO_6; clear HO_8; clear HB; have HO_6 := n0_; have HO_8 := n1_; have HB := n2_; clear n0_ n1_ n2_; (try clear hb); (try clear hb2); (try clear hk); (try clear hi)) | (go_at_call 22; (with_reducible refine (shape_Fits.calls kj11 _ _ l1 _ _ t311 false _ ?side1 ?side2 ?side3 ?side4 A59.out).mono ?_); (case side1 => repeat (first | exact (Kd.C_below HR1.out HB.out) | (with_reducible refine Kd.C_alloc ?_ _) | (with_reducible refine Kd.C_drewN ?_ _) | (with_reducible refine Kd.C_drew ?_))); (case side2 => exact HC1.out); (case side3 => repeat (first | exact (Kd.R_reads' HO_6.out).2.2 | (with_reducible refine Kd.C_alloc ?_ _) | (with_reducible refine Kd.C_drewN ?_ _) | (with_reducible refine Kd.C_drew ?_))); (case side4 => exact (Kd.R_reads' HO_6.out).2.1); rintro e w69 ⟨rfl, hb⟩; have n0_ := Aside0.mk (Kd.R_below (by (with_reducible repeat (first | apply Kd.R_alloc | apply Kd.R_drewN | apply Kd.R_drew)); exact HO_6.out) hb); have n1_ := Aside0.mk (Kd.R_below (by (with_reducible repeat (first | apply Kd.R_alloc | apply Kd.R_drewN | apply Kd.R_drew)); exact HO_8.out) hb); have n2_ := Aside0.mk (below_step (by repeat (first | (with_reducible first | exact HB.out | apply below_alloc | apply pw_below_drewN | apply below_drew1) | exact HB.out)) hb); clear HO_6; clear HO_8; clear HB; have HO_6 := n0_; have HO_8 := n1_; have HB := n2_; clear n0_ n1_ n2_; (try clear hb); (try clear hb2); (try clear hk); (try clear hi)))
                          go_ret
                          exact ⟨by first | rfl | (simp [errW_none, errW_some] <;> rfl) | (simp [*, errW_none, errW_some] <;> rfl), by repeat (first | (with_reducible first | exact HB.out | apply below_alloc | apply pw_below_drewN | apply below_drew1) | exact HB.out)⟩
                      · replace c58 := Bool.eq_false_iff.mpr c58
                        subst c58
                        have H1 : (some false) = some r := by rw [if_neg (show ¬ (false = true) by decide)] at H; exact H
                        clear H
                        have H := H1
                        clear H1
                        obtain rfl := Option.some.inj H
                        obtain ⟨Ao70, co70, eo70⟩ := Kd.R_slice HO_6.out
                        subst eo70
                        obtain ⟨Ao71, co71, eo71⟩ := Kd.R_slice HO_8.out
                        subst eo71
                        go_wp2_with (first | (go_at_call 17; (with_reducible refine (fullerref02_Same.calls kj11 _ _ t311 _ _ t315 true _ ?side1 ?side2 ?side3 ?side4 A55.out).mono ?_); (case side1 => repeat (first | exact (Kd.R_reads' HO_6.out).2.2 | (with_reducible refine Kd.C_alloc ?_ _) | (with_reducible refine Kd.C_drewN ?_ _) | (with_reducible refine Kd.C_drew ?_))); (case side2 => exact (Kd.R_reads' HO_6.out).2.1); (case side3 => repeat (first | exact (Kd.R_reads' HO_8.out).2.2 | (with_reducible refine Kd.C_alloc ?_ _) | (with_reducible refine Kd.C_drewN ?_ _) | (with_reducible refine Kd.C_drew ?_))); (case side4 => exact (Kd.R_reads' HO_8.out).2.1); rintro e w' ⟨rfl, ⟨nd, rfl⟩⟩) | (go_at_call 22; (with_reducible refine (shape_Fits.calls kj11 _ _ l0 _ _ t311 false _ ?side1 ?side2 ?side3 ?side4 A57.out).mono ?_); (case side1 => repeat (first | exact (Kd.C_below HR0.out (by repeat (first | (with_reducible first | exact HB.out | apply below_alloc | apply pw_below_drewN | apply below_drew1) | exact HB.out))) | (with_reducible refine Kd.C_alloc ?_ _) | (with_reducible refine Kd.C_drewN ?_ _) | (with_reducible refine Kd.C_drew ?_))); (case side2 => exact HC0.out); (case side3 => repeat (first | exact (Kd.R_reads' HO_6.out).2.2 | (with_reducible refine Kd.C_alloc ?_ _) | (with_reducible refine Kd.C_drewN ?_ _) | (with_reducible refine Kd.C_drew ?_))); (case side4 => exact (Kd.R_reads' HO_6.out).2.1); rintro e w72 ⟨rfl, hb⟩; have n0_ := Aside0.mk (Kd.R_below (by (with_reducible repeat (first | apply Kd.R_alloc | apply Kd.R_drewN | apply Kd.R_drew)); exact HO_6.out) hb); have n1_ := Aside0.mk (Kd.R_below (by (with_reducible repeat (first | apply Kd.R_alloc | apply Kd.R_drewN | apply Kd.R_drew)); exact HO_8.out) hb); have n2_ := Aside0.mk (below_step (by repeat (first | (with_reducible first | exact HB.out | apply below_alloc | apply pw_below_drewN | apply below_drew1) | exact HB.out)) hb); clear HO_6; clear HO_8; clear HB; have HO_6 := n0_; have HO_8 := n1_; have HB := n2_; clear n0_ n1_ n2_; (try clear hb); (try clear hb2); (try clear hk); (try clear hi)))
                        go_ret
                        exact ⟨by first | rfl | (simp [errW_none, errW_some] <;> rfl) | (simp [*, errW_none, errW_some] <;> rfl), by repeat (first | (with_reducible first | exact HB.out | apply below_alloc | apply pw_below_drewN | apply below_drew1) | exact HB.out)⟩
                    · replace c56 := Bool.eq_false_iff.mpr c56
                      subst c56
                      have H1 : (some false) = some r := by rw [if_neg (show ¬ (false = true) by decide)] at H; exact H
                      clear H
                      have H := H1
                      clear H1
                      obtain rfl := Option.some.inj H
                      obtain ⟨Ao73, co73, eo73⟩ := Kd.R_slice HO_6.out
                      subst eo73
                      obtain ⟨Ao74, co74, eo74⟩ := Kd.R_slice HO_8.out
                      subst eo74
                      go_wp2_with (first | (go_at_call 17; (with_reducible refine (fullerref02_Same.calls kj11 _ _ t311 _ _ t315 false _ ?side1 ?side2 ?side3 ?side4 A55.out).mono ?_); (case side1 => repeat (first | exact (Kd.R_reads' HO_6.out).2.2 | (with_reducible refine Kd.C_alloc ?_ _) | (with_reducible refine Kd.C_drewN ?_ _) | (with_reducible refine Kd.C_drew ?_))); (case side2 => exact (Kd.R_reads' HO_6.out).2.1); (case side3 => repeat (first | exact (Kd.R_reads' HO_8.out).2.2 | (with_reducible refine Kd.C_alloc ?_ _) | (with_reducible refine Kd.C_drewN ?_ _) | (with_reducible refine Kd.C_drew ?_))); (case side4 => exact (Kd.R_reads' HO_8.out).2.1); rintro e w' ⟨rfl, ⟨nd, rfl⟩⟩))
                      go_ret
                      exact ⟨by first | rfl | (simp [errW_none, errW_some] <;> rfl) | (simp [*, errW_none, errW_some] <;> rfl), by repeat (first | (with_reducible first | exact HB.out | apply below_alloc | apply pw_below_drewN | apply below_drew1) | exact HB.out)⟩
                  · replace c54 := Bool.eq_false_iff.mpr c54
                    subst c54
                    have H1 : (some false) = some r := by rw [if_neg (show ¬ (false = true) by decide)] at H; exact H
                    clear H
                    have H := H1
                    clear H1
                    obtain rfl := Option.some.inj H
                    go_wp2
                    go_ret
                    exact ⟨by first | rfl | (simp [errW_none, errW_some] <;> rfl) | (simp [*, errW_none, errW_some] <;> rfl), by repeat (first | (with_reducible first | exact HB.out | apply below_alloc | apply pw_below_drewN | apply below_drew1) | exact HB.out)⟩
                · rw [if_neg c53] at H
                  have c53b0 : (t316 == 0) = false := beq_eq_false_iff_ne.mpr c53
                  have c53b1 : (t316 != 0) = true := bne_iff_ne.mpr c53
                  obtain rfl := Option.some.inj H
                  go_wp2
                  go_ret
                  exact ⟨by first | rfl | (simp [errW_none, errW_some] <;> rfl) | (simp [*, errW_none, errW_some] <;> rfl), by repeat (first | (with_reducible first | exact HB.out | apply below_alloc | apply pw_below_drewN | apply below_drew1) | exact HB.out)⟩
              · replace c52 := Bool.eq_false_iff.mpr c52
                subst c52
                have H1 : (some false) = some r := by rw [if_neg (show ¬ (false = true) by decide)] at H; exact H
                clear H
                have H := H1
                clear H1
                obtain rfl := Option.some.inj H
                go_wp2
                go_ret
                exact ⟨by first | rfl | (simp [errW_none, errW_some] <;> rfl) | (simp [*, errW_none, errW_some] <;> rfl), by repeat (first | (with_reducible first | exact HB.out | apply below_alloc | apply pw_below_drewN | apply below_drew1) | exact HB.out)⟩
            · rw [if_neg c51] at H
              have c51b0 : (t312 == 0) = false := beq_eq_false_iff_ne.mpr c51
              have c51b1 : (t312 != 0) = true := bne_iff_ne.mpr c51
              by_cases c75 : t310 = true
              · subst c75
                have H1 : (if t316 = t312 then (if x14_11 = true then ((shape_Fits.f kj11 l0 l1).bind fun t335 => (if t335 = true then (some false) else ((shape_Fits.f kj11 l1 l0).bind fun t336 => (some (!t336))))) else (some false)) else (some false)) = some r := by rw [if_pos rfl] at H; exact H
                clear H
                have H := H1
                clear H1
                by_cases c76 : t316 = t312
                · rw [if_pos c76] at H
                  have c76b0 : (t316 == t312) = true := beq_iff_eq.mpr c76
                  have c76b1 : (t316 != t312) = false := bne_eq_false_iff_eq.mpr c76
                  clear c76
                  by_cases c77 : x14_11 = true
                  · subst c77
                    have H1 : ((shape_Fits.f kj11 l0 l1).bind fun t335 => (if t335 = true then (some false) else ((shape_Fits.f kj11 l1 l0).bind fun t336 => (some (!t336))))) = some r := by rw [if_pos rfl] at H; exact H
                    clear H
                    have H := H1
                    clear H1
                    replace H := Option.bind_eq_some_iff.mp H
                    obtain ⟨t335, A780, H⟩ := H
                    replace H : (if t335 = true then (some false) else ((shape_Fits.f kj11 l1 l0).bind fun t336 => (some (!t336)))) = some r := H
                    have A78 := Aside0.mk A780
                    clear A780
                    by_cases c79 : t335 = true
                    · subst c79
                      have H1 : (some false) = some r := by rw [if_pos rfl] at H; exact H
                      clear H
                      have H := H1
                      clear H1
                      obtain rfl := Option.some.inj H
                      go_wp2_with (first | (go_at_call 22; (with_reducible refine (shape_Fits.calls kj11 _ _ l0 _ _ l1 true _ ?side1 ?side2 ?side3 ?side4 A78.out).mono ?_); (case side1 => repeat (first | exact (Kd.C_below HR0.out HB.out) | (with_reducible refine Kd.C_alloc ?_ _) | (with_reducible refine Kd.C_drewN ?_ _) | (with_reducible refine Kd.C_drew ?_))); (case side2 => exact HC0.out); (case side3 => repeat (first | exact (Kd.C_below HR1.out HB.out) | (with_reducible refine Kd.C_alloc ?_ _) | (with_reducible refine Kd.C_drewN ?_ _) | (with_reducible refine Kd.C_drew ?_))); (case side4 => exact HC1.out); rintro e w80 ⟨rfl, hb⟩; have n0_ := Aside0.mk (Kd.R_below (by (with_reducible repeat (first | apply Kd.R_alloc | apply Kd.R_drewN | apply Kd.R_drew)); exact HO_6.out) hb); have n1_ := Aside0.mk (Kd.R_below (by (with_reducible repeat (first | apply Kd.R_alloc | apply Kd.R_drewN | apply Kd.R_drew)); exact HO_8.out) hb); have n2_ := Aside0.mk (below_step (by repeat (first | (with_reducible first | exact HB.out | apply below_alloc | apply pw_below_drewN | apply below_drew1) | exact HB.out)) hb); clear HO_6; clear HO_8; clear HB; have HO_6 := n0_; have HO_8 := n1_; have HB := n2_; clear n0_ n1_ n2_; (try clear hb); (try clear hb2); (try clear hk); (try clear hi)))
                      go_ret
                      exact ⟨by first | rfl | (simp [errW_none, errW_some] <;> rfl) | (simp [*, errW_none, errW_some] <;> rfl), by repeat (first | (with_reducible first | exact HB.out | apply below_alloc | apply pw_below_drewN | apply below_drew1) | exact HB.out)⟩
                    · replace c79 := Bool.eq_false_iff.mpr c79
                      subst c79
                      have H1 : ((shape_Fits.f kj11 l1 l0).bind fun t336 => (some (!t336))) = some r := by rw [if_neg (show ¬ (false = true) by decide)] at H; exact H
                      clear H
                      have H := H1
                      clear H1
                      replace H := Option.bind_eq_some_iff.mp H
                      obtain ⟨t336, A810, H⟩ := H
                      replace H : (some (!t336)) = some r := H
                      have A81 := Aside0.mk A810
                      clear A810
                      obtain rfl := Option.some.inj H
                      go_wp2_with (first | (go_at_call 22; (with_reducible refine (shape_Fits.calls kj11 _ _ l0 _ _ l1 false _ ?side1 ?side2 ?side3 ?side4 A78.out).mono ?_); (case side1 => repeat (first | exact (Kd.C_below HR0.out HB.out) | (with_reducible refine Kd.C_alloc ?_ _) | (with_reducible refine Kd.C_drewN ?_ _) | (with_reducible refine Kd.C_drew ?_))); (case side2 => exact HC0.out); (case side3 => repeat (first | exact (Kd.C_below HR1.out HB.out) | (with_reducible refine Kd.C_alloc ?_ _) | (with_reducible refine Kd.C_drewN ?_ _) | (with_reducible refine Kd.C_drew ?_))); (case side4 => exact HC1.out); rintro e w82 ⟨rfl, hb⟩; have n0_ := Aside0.mk (Kd.R_below (by (with_reducible repeat (first | apply Kd.R_alloc | apply Kd.R_drewN | apply Kd.R_drew)); exact HO_6.out) hb); have n1_ := Aside0.mk (Kd.R_below (by (with_reducible repeat (first | apply Kd.R_alloc | apply Kd.R_drewN | apply Kd.R_drew)); exact HO_8.out) hb); have n2_ := Aside0.mk (below_step (by repeat (first | (with_reducible first | exact HB.out | apply below_alloc | apply pw_below_drewN | apply below_drew1) | exact HB.out)) hb); clear HO_6; clear HO_8; clear HB; have HO_6 := n0_; have HO_8 := n1_; have HB := n2_; clear n0_ n1_ n2_; (try clear hb); (try clear hb2); (try clear hk); (try clear hi)) | (go_at_call 22; (with_reducible refine (shape_Fits.calls kj11 _ _ l1 _ _ l0 t336 _ ?side1 ?side2 ?side3 ?side4 A81.out).mono ?_); (case side1 => repeat (first | exact (Kd.C_below HR1.out HB.out) | (with_reducible refine Kd.C_alloc ?_ _) | (with_reducible refine Kd.C_drewN ?_ _) | (with_reducible refine Kd.C_drew ?_))); (case side2 => exact HC1.out); (case side3 => repeat (first | exact (Kd.C_below HR0.out HB.out) | (with_reducible refine Kd.C_alloc ?_ _) | (with_reducible refine Kd.C_drewN ?_ _) | (with_reducible refine Kd.C_drew ?_))); (case side4 => exact HC0.out); rintro e w83 ⟨rfl, hb⟩; have n0_ := Aside0.mk (Kd.R_below (by (with_reducible repeat (first | apply Kd.R_alloc | apply Kd.R_drewN | apply Kd.R_drew)); exact HO_6.out) hb); have n1_ := Aside0.mk (Kd.R_below (by (with_reducible repeat (first | apply Kd.R_alloc | apply Kd.R_drewN | apply Kd.R_drew)); exact HO_8.out) hb); have n2_ := Aside0.mk (below_step (by repeat (first | (with_reducible first | exact HB.out | apply below_alloc | apply pw_below_drewN | apply below_drew1) | exact HB.out)) hb); clear HO_6; clear HO_8; clear HB; have HO_6 := n0_; have HO_8 := n1_; have HB := n2_; clear n0_ n1_ n2_; (try clear hb); (try clear hb2); (try clear hk); (try clear hi)))
                      go_ret
                      exact ⟨by first | rfl | (simp [errW_none, errW_some] <;> rfl) | (simp [*, errW_none, errW_some] <;> rfl), by repeat (first | (with_reducible first | exact HB.out | apply below_alloc | apply pw_below_drewN | apply below_drew1) | exact HB.out)⟩
                  · replace c77 := Bool.eq_false_iff.mpr c77
                    subst c77
                    have H1 : (some false) = some r := by rw [if_neg (show ¬ (false = true) by decide)] at H; exact H
                    clear H
                    have H := H1
                    clear H1
                    obtain rfl := Option.some.inj H
                    go_wp2
                    go_ret
                    exact ⟨by first | rfl | (simp [errW_none, errW_some] <;> rfl) | (simp [*, errW_none, errW_some] <;> rfl), by repeat (first | (with_reducible first | exact HB.out | apply below_alloc | apply pw_below_drewN | apply below_drew1) | exact HB.out)⟩
                · rw [if_neg c76] at H
                  have c76b0 : (t316 == t312) = false := beq_eq_false_iff_ne.mpr c76
                  have c76b1 : (t316 != t312) = true := bne_iff_ne.mpr c76
                  obtain rfl := Option.some.inj H
                  go_wp2
                  go_ret
                  exact ⟨by first | rfl | (simp [errW_none, errW_some] <;> rfl) | (simp [*, errW_none, errW_some] <;> rfl), by repeat (first | (with_reducible first | exact HB.out | apply below_alloc | apply pw_below_drewN | apply below_drew1) | exact HB.out)⟩
              · replace c75 := Bool.eq_false_iff.mpr c75
                subst c75
                have H1 : (some false) = some r := by rw [if_neg (show ¬ (false = true) by decide)] at H; exact H
                clear H
                have H := H1
                clear H1
                obtain rfl := Option.some.inj H
                go_wp2
                go_ret
                exact ⟨by first | rfl | (simp [errW_none, errW_some] <;> rfl) | (simp [*, errW_none, errW_some] <;> rfl), by repeat (first | (with_reducible first | exact HB.out | apply below_alloc | apply pw_below_drewN | apply below_drew1) | exact HB.out)⟩

/-- THE ONE PURE STATEMENT of fullerlaw02_ShapeJoins: yours. -/
def fullerlaw02_ShapeJoins.Pure : Prop := ∀ (l0 : List Int) (l1 : List Int), l0.length ≤ maxLen → l0.length * 8 ≤ 140737488351232 → (∀ x ∈ l0, (Lit.int .i64 x).wf = true) → l1.length ≤ maxLen → l1.length * 8 ≤ 140737488351232 → (∀ x ∈ l1, (Lit.int .i64 x).wf = true) → ∃ k, fullerlaw02_ShapeJoins.f k l0 l1 = some true
theorem fullerlaw02_ShapeJoins.walk (P : fullerlaw02_ShapeJoins.Pure) (a0 : Option Addr) (len0 cap0 : Nat) (z0 : List Int) (a1 : Option Addr) (len1 cap1 : Nat) (z1 : List Int) (w : World) (w0 : (a0 = none ∧ len0 = 0 ∧ cap0 = 0 ∧ z0 = []) ∨ ∃ x, a0 = some x ∧ len0 ≤ cap0 ∧ cap0 ≤ maxLen ∧ z0.length = cap0 ∧ (∀ i, i < z0.length → w.cell? (x.add i) = some (.int .i64 (z0.getD i 0))) ∧ ∀ n ∈ z0, (Lit.int .i64 n).wf = true) (y0 : len0 * 8 ≤ 140737488351232) (w1 : (a1 = none ∧ len1 = 0 ∧ cap1 = 0 ∧ z1 = []) ∨ ∃ x, a1 = some x ∧ len1 ≤ cap1 ∧ cap1 ≤ maxLen ∧ z1.length = cap1 ∧ (∀ i, i < z1.length → w.cell? (x.add i) = some (.int .i64 (z1.getD i 0))) ∧ ∀ n ∈ z1, (Lit.int .i64 n).wf = true) (y1 : len1 * 8 ≤ 140737488351232) :
    Calls Try.prog 5 #[.slice a0 len0 cap0, .slice a1 len1 cap1] w fun e w' => e = .returned (.bool true) ∧ Below w.heap.size w w' := by
  obtain ⟨l0, rfl, hr0, hm0, hw0, hc0⟩ := ReadsInt.ofRowC w0
  obtain ⟨l1, rfl, hr1, hm1, hw1, hc1⟩ := ReadsInt.ofRowC w1
  obtain ⟨k, h⟩ := P l0 l1 hm0 y0 hw0 hm1 y1 hw1
  refine (fullerlaw02_ShapeJoins.calls k _ _ l0 _ _ l1 true w (Kd.C_of_reads (d := (0 : Int)) (h1 := fun _ => rfl) hr0) hc0 (Kd.C_of_reads (d := (0 : Int)) (h1 := fun _ => rfl) hr1) hc1 h).mono ?_
  rintro e w' ⟨rfl, hd⟩
  exact ⟨rfl, hd⟩

end Go.Proofs.Ytgmmbakfaoallaa.A
