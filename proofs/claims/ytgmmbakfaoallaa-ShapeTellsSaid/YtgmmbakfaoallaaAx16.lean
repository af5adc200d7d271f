/- Lean functions that answer as the Go functions do, and the proofs that they do; no conditions. Written by this session's own driver: a scratch copy of the kit's print with the session's additions (wip/xprint). -/
import Derived.Test.YtgmmbakfaoallaaAx0
import Derived.Test.YtgmmbakfaoallaaAx1
import Derived.Test.YtgmmbakfaoallaaAx2
import Derived.Test.YtgmmbakfaoallaaAx3
import Derived.Test.YtgmmbakfaoallaaAx4
import Derived.Test.YtgmmbakfaoallaaAx6
import Derived.Test.YtgmmbakfaoallaaAx7
import Derived.Test.YtgmmbakfaoallaaAx8
import Derived.Test.YtgmmbakfaoallaaAx9
import Derived.Test.YtgmmbakfaoallaaAx10
import Derived.Test.YtgmmbakfaoallaaAx11
import Derived.Test.YtgmmbakfaoallaaAx12
import Derived.Test.YtgmmbakfaoallaaAx13
import Derived.Test.YtgmmbakfaoallaaAx14
import Derived.Test.YtgmmbakfaoallaaAx15
namespace Go.Proofs.Ytgmmbakfaoallaa.A
open Go.RowKit Go.Proofs.YtgmmbakfaoallaaW.PrintWords Go.Proofs.YtgmmbakfaoallaaW.PrintLast Go.Proofs.YtgmmbakfaoallaaW.PrintMore
attribute [local go_sem] max2_int min2_int max_two min_two max_three min_three max_four min_four   -- for this text's walks alone
set_option linter.unusedVariables false
set_option linter.unusedSimpArgs false

/-! ### fullerlaw02_ShapeTells: function 3 -/
mutual
def fullerlaw02_ShapeTells.j0 : Nat → List Int → List Int → Int → Bool → Bool → Option (Bool)
  | 0, _, _, _, _, _ => none
  | k + 1, x0, x1, x2, x7, x29 => if x29 = true then (some x7) else ((shape_Place.f k x0 x1).bind fun bt264 => ((fullerref02_Place.f k x0 x1).bind fun bt266 => ((shape_Index.f k x0 x2).bind fun bt268 => ((fullerref02_Index.f k x0 x2).bind fun bt272 => ((shape_Join.f k x0 x1).bind fun bt276 => ((fullerref02_Join.f k x0 x1).bind fun bt280 => (if bt264.1 = bt266.1 then (if bt264.2 = bt266.2 then ((fullerref02_Same.f k bt268.1 bt272.1).bind fun t284 => (if t284 = true then (if bt268.2 = bt272.2 then ((fullerref02_Same.f k bt276.1 bt280.1).bind fun t285 => (if t285 = true then (fullerlaw02_ShapeTells.j1 k x0 x1 x7 (bt276.2 == bt280.2)) else (fullerlaw02_ShapeTells.j1 k x0 x1 x7 false))) else (fullerlaw02_ShapeTells.j1 k x0 x1 x7 false)) else (fullerlaw02_ShapeTells.j1 k x0 x1 x7 false))) else (fullerlaw02_ShapeTells.j1 k x0 x1 x7 false)) else (fullerlaw02_ShapeTells.j1 k x0 x1 x7 false))))))))
def fullerlaw02_ShapeTells.j1 : Nat → List Int → List Int → Bool → Bool → Option (Bool)
  | 0, _, _, _, _ => none
  | k + 1, x0, x1, x7, x20 => if x7 = true then (if x20 = true then ((shape_Check.f k x0).bind fun t286 => ((fullerref02_Check.f k x0).bind fun t287 => (if (t286 == t287) = true then ((shape_Size.f k x0).bind fun t288 => ((fullerref02_Size.f k x0).bind fun t289 => (if t288 = t289 then ((shape_Fits.f k x0 x1).bind fun t290 => ((fullerref02_Fits.f k x0 x1).bind fun t291 => (some (t290 == t291)))) else (some false)))) else (some false)))) else (some false)) else (some false)
end
def fullerlaw02_ShapeTells.f (k : Nat) (l0 : List Int) (l1 : List Int) (a2 : Int) : Option (Bool) := (fullerlaw02_awake.f k).bind fun t263 => (if (l0.length : Int) > 100 then (fullerlaw02_ShapeTells.j0 k l0 l1 a2 t263 true) else (fullerlaw02_ShapeTells.j0 k l0 l1 a2 t263 (decide ((l1.length : Int) > 100))))
theorem fullerlaw02_ShapeTells.mono_l : ∀ k, (∀ y0 y1 y2 y3 y4, LeO (fullerlaw02_ShapeTells.j0 k y0 y1 y2 y3 y4) (fullerlaw02_ShapeTells.j0 (k + 1) y0 y1 y2 y3 y4)) ∧ (∀ y0 y1 y2 y3, LeO (fullerlaw02_ShapeTells.j1 k y0 y1 y2 y3) (fullerlaw02_ShapeTells.j1 (k + 1) y0 y1 y2 y3))
  | 0 => ⟨fun _ _ _ _ _ r h => by simp [fullerlaw02_ShapeTells.j0] at h, fun _ _ _ _ r h => by simp [fullerlaw02_ShapeTells.j1] at h⟩
  | k + 1 => by
    obtain ⟨ih0, ih1⟩ := fullerlaw02_ShapeTells.mono_l k
    refine ⟨?_, ?_⟩
    · intro y0 y1 y2 y3 y4
      unfold fullerlaw02_ShapeTells.j0
      repeat' first
      | (with_reducible exact ih0 _ _ _ _ _)
      | (with_reducible exact ih1 _ _ _ _)
      | (with_reducible exact fullerlaw02_awake.mono _)
      | (with_reducible exact fullerref02_Check.mono _ _)
      | (with_reducible exact fullerref02_Fits.mono _ _ _)
      | (with_reducible exact fullerref02_Index.mono _ _ _)
      | (with_reducible exact fullerref02_Join.mono _ _ _)
      | (with_reducible exact fullerref02_Place.mono _ _ _)
      | (with_reducible exact fullerref02_Same.mono _ _ _)
      | (with_reducible exact fullerref02_Size.mono _ _)
      | (with_reducible exact shape_Check.mono _ _)
      | (with_reducible exact shape_Fits.mono _ _ _)
      | (with_reducible exact shape_Index.mono _ _ _)
      | (with_reducible exact shape_Join.mono _ _ _)
      | (with_reducible exact shape_Place.mono _ _ _)
      | (with_reducible exact shape_Size.mono _ _)
      | (with_reducible exact LeO.refl _)
      | (with_reducible exact LeO.none _)
      | (with_reducible refine LeO.ite ?_ ?_)
      | (with_reducible refine LeO.bind ?_ (fun _ => ?_))
      | exact ih0 _ _ _ _ _
      | exact ih1 _ _ _ _
      | exact fullerlaw02_awake.mono _
      | exact fullerref02_Check.mono _ _
      | exact fullerref02_Fits.mono _ _ _
      | exact fullerref02_Index.mono _ _ _
      | exact fullerref02_Join.mono _ _ _
      | exact fullerref02_Place.mono _ _ _
      | exact fullerref02_Same.mono _ _ _
      | exact fullerref02_Size.mono _ _
      | exact shape_Check.mono _ _
      | exact shape_Fits.mono _ _ _
      | exact shape_Index.mono _ _ _
      | exact shape_Join.mono _ _ _
      | exact shape_Place.mono _ _ _
      | exact shape_Size.mono _ _
      | exact LeO.none _
      | refine LeO.ite ?_ ?_
      | refine LeO.bind ?_ (fun _ => ?_)
    · intro y0 y1 y2 y3
      unfold fullerlaw02_ShapeTells.j1
      repeat' first
      | (with_reducible exact ih0 _ _ _ _ _)
      | (with_reducible exact ih1 _ _ _ _)
      | (with_reducible exact fullerlaw02_awake.mono _)
      | (with_reducible exact fullerref02_Check.mono _ _)
      | (with_reducible exact fullerref02_Fits.mono _ _ _)
      | (with_reducible exact fullerref02_Index.mono _ _ _)
      | (with_reducible exact fullerref02_Join.mono _ _ _)
      | (with_reducible exact fullerref02_Place.mono _ _ _)
      | (with_reducible exact fullerref02_Same.mono _ _ _)
      | (with_reducible exact fullerref02_Size.mono _ _)
      | (with_reducible exact shape_Check.mono _ _)
      | (with_reducible exact shape_Fits.mono _ _ _)
      | (with_reducible exact shape_Index.mono _ _ _)
      | (with_reducible exact shape_Join.mono _ _ _)
      | (with_reducible exact shape_Place.mono _ _ _)
      | (with_reducible exact shape_Size.mono _ _)
      | (with_reducible exact LeO.refl _)
      | (with_reducible exact LeO.none _)
      | (with_reducible refine LeO.ite ?_ ?_)
      | (with_reducible refine LeO.bind ?_ (fun _ => ?_))
      | exact ih0 _ _ _ _ _
      | exact ih1 _ _ _ _
      | exact fullerlaw02_awake.mono _
      | exact fullerref02_Check.mono _ _
      | exact fullerref02_Fits.mono _ _ _
      | exact fullerref02_Index.mono _ _ _
      | exact fullerref02_Join.mono _ _ _
      | exact fullerref02_Place.mono _ _ _
      | exact fullerref02_Same.mono _ _ _
      | exact fullerref02_Size.mono _ _
      | exact shape_Check.mono _ _
      | exact shape_Fits.mono _ _ _
      | exact shape_Index.mono _ _ _
      | exact shape_Join.mono _ _ _
      | exact shape_Place.mono _ _ _
      | exact shape_Size.mono _ _
      | exact LeO.none _
      | refine LeO.ite ?_ ?_
      | refine LeO.bind ?_ (fun _ => ?_)
theorem fullerlaw02_ShapeTells.mono : ∀ a0 a1 a2 k, LeO (fullerlaw02_ShapeTells.f k a0 a1 a2) (fullerlaw02_ShapeTells.f (k + 1) a0 a1 a2) := by
  intro a0 a1 a2 k
  obtain ⟨ih0, ih1⟩ := fullerlaw02_ShapeTells.mono_l k
  unfold fullerlaw02_ShapeTells.f
  repeat' first
      | (with_reducible exact ih0 _ _ _ _ _)
      | (with_reducible exact ih1 _ _ _ _)
      | (with_reducible exact fullerlaw02_awake.mono _)
      | (with_reducible exact fullerref02_Check.mono _ _)
      | (with_reducible exact fullerref02_Fits.mono _ _ _)
      | (with_reducible exact fullerref02_Index.mono _ _ _)
      | (with_reducible exact fullerref02_Join.mono _ _ _)
      | (with_reducible exact fullerref02_Place.mono _ _ _)
      | (with_reducible exact fullerref02_Same.mono _ _ _)
      | (with_reducible exact fullerref02_Size.mono _ _)
      | (with_reducible exact shape_Check.mono _ _)
      | (with_reducible exact shape_Fits.mono _ _ _)
      | (with_reducible exact shape_Index.mono _ _ _)
      | (with_reducible exact shape_Join.mono _ _ _)
      | (with_reducible exact shape_Place.mono _ _ _)
      | (with_reducible exact shape_Size.mono _ _)
      | (with_reducible exact LeO.refl _)
      | (with_reducible exact LeO.none _)
      | (with_reducible refine LeO.ite ?_ ?_)
      | (with_reducible refine LeO.bind ?_ (fun _ => ?_))
      | exact ih0 _ _ _ _ _
      | exact ih1 _ _ _ _
      | exact fullerlaw02_awake.mono _
      | exact fullerref02_Check.mono _ _
      | exact fullerref02_Fits.mono _ _ _
      | exact fullerref02_Index.mono _ _ _
      | exact fullerref02_Join.mono _ _ _
      | exact fullerref02_Place.mono _ _ _
      | exact fullerref02_Same.mono _ _ _
      | exact fullerref02_Size.mono _ _
      | exact shape_Check.mono _ _
      | exact shape_Fits.mono _ _ _
      | exact shape_Index.mono _ _ _
      | exact shape_Join.mono _ _ _
      | exact shape_Place.mono _ _ _
      | exact shape_Size.mono _ _
      | exact LeO.none _
      | refine LeO.ite ?_ ?_
      | refine LeO.bind ?_ (fun _ => ?_)
set_option maxHeartbeats 8000000 in
set_option maxRecDepth 100000 in
theorem fullerlaw02_ShapeTells.calls (k : Nat) (A0 : Option Addr) (c0 : Nat) (l0 : List Int) (A1 : Option Addr) (c1 : Nat) (l1 : List Int) (a2 : Int) (r : Bool) (w : World) (hr0 : Kd.C (Kd.int .i64) w A0 l0.length l0) (hc0 : l0.length ≤ c0) (hr1 : Kd.C (Kd.int .i64) w A1 l1.length l1) (hc1 : l1.length ≤ c1) (h : fullerlaw02_ShapeTells.f k l0 l1 a2 = some r) :
    Calls Try.prog 3 #[.slice A0 l0.length c0, .slice A1 l1.length c1, .int .i64 a2] w fun e w' => e = .returned (.bool r) ∧ Below w.heap.size w w' := by
  have HR0 := Aside0.mk hr0
  have HC0 := Aside0.mk hc0
  clear hr0 hc0
  have HR1 := Aside0.mk hr1
  have HC1 := Aside0.mk hc1
  clear hr1 hc1
  have HB := Aside0.mk (Below.refl w.heap.size w)
  have H : ((fullerlaw02_awake.f k).bind fun t263 => (if (l0.length : Int) > 100 then (fullerlaw02_ShapeTells.j0 k l0 l1 a2 t263 true) else (fullerlaw02_ShapeTells.j0 k l0 l1 a2 t263 (decide ((l1.length : Int) > 100))))) = some r := h
  clear h
  replace H := Option.bind_eq_some_iff.mp H
  obtain ⟨t263, A40, H⟩ := H
  replace H : (if (l0.length : Int) > 100 then (fullerlaw02_ShapeTells.j0 k l0 l1 a2 t263 true) else (fullerlaw02_ShapeTells.j0 k l0 l1 a2 t263 (decide ((l1.length : Int) > 100)))) = some r := H
  have A4 := Aside0.mk A40
  clear A40
  have HC5 := Aside0.mk H
  clear H
  go_enter Try.func3, Try.ntmps3
  go_upto_region 2 with (first | ((with_reducible refine gate_callee (f := 10) rfl ?_); refine goesL_ (some 21) rfl rfl Try.func10 (by kernel_rfl) rfl #[] rfl (by (try simp only [List.map_toArray, List.map_cons, List.map_nil]); first | done | rfl | (simp only [List.length_drop, List.length_take]; rfl)) ?_; (with_reducible refine (fullerlaw02_awake.calls k  t263 _ A4.out).mono ?_); rintro e w6 ⟨rfl, hb⟩; refine ⟨_, rfl, ?_⟩; have n0_ := Aside0.mk (below_step (by repeat (first | (with_reducible first | exact HB.out | apply below_alloc | apply pw_below_drewN | apply below_drew1) | exact HB.out)) hb); clear HB; have HB := n0_; clear n0_; (try clear hb); (try clear hb2); (try clear hk); (try clear hi)))
  (try simp only [Act.put, List.setIfInBounds_toArray, List.set_cons_zero, List.set_cons_succ])
  go_cut [29] (fun v29 wc => ∃ (kq : Nat) (x29_4 : Bool), v29 = .bool x29_4 ∧ Aside0 (fullerlaw02_ShapeTells.j0 kq l0 l1 a2 t263 x29_4 = some r) ∧ Aside0 (kq ≤ k) ∧ Aside0 (Below w.heap.size w wc))
  case first =>
    have H := HC5.out
    clear HC5
    by_cases c7 : (l0.length : Int) > 100
    · rw [if_pos c7] at H
      have c7b0 : decide (100 < (l0.length : Int)) = true := decide_eq_true c7
      have c7b1 : decide (100 < l0.length) = true := decide_eq_true (by omega)
      clear c7
      (first | rw [c7b0] | (simp only [i64_w, i32_w]; rw [c7b0]) | skip)
      have H' := Aside0.mk H
      clear H
      go_wp2
      go_meet
      case rel => exact ⟨_, (true), (by first | rfl | (simp; done) | (simp [*]; done)), H', ⟨by first | omega | exact Nat.le_refl _⟩, ⟨by repeat (first | (with_reducible first | exact HB.out | apply below_alloc | apply pw_below_drewN | apply below_drew1) | exact HB.out)⟩⟩
    · rw [if_neg c7] at H
      have c7b0 : decide (100 < (l0.length : Int)) = false := decide_eq_false c7
      have c7b1 : decide (100 < l0.length) = false := decide_eq_false (by omega)
      clear c7
      (first | rw [c7b0] | (simp only [i64_w, i32_w]; rw [c7b0]) | skip)
      have H' := Aside0.mk H
      clear H
      go_wp2
      go_meet
      case rel => exact ⟨_, (decide ((l1.length : Int) > 100)), (by first | rfl | (simp; done) | (simp [*]; done)), H', ⟨by first | omega | exact Nat.le_refl _⟩, ⟨by repeat (first | (with_reducible first | exact HB.out | apply below_alloc | apply pw_below_drewN | apply below_drew1) | exact HB.out)⟩⟩
  case rest =>
    clear HC5
    try clear c1
    try clear p2
    try clear c3
    try clear c7
    try clear c7b0
    try clear c7b1
    obtain ⟨kq, x29_4, rfl, HA, HJ4, HB⟩ := hcut
    cases kq with
    | zero => exact absurd HA.out (by simp [fullerlaw02_ShapeTells.j0])
    | succ kj4 =>
      have H := HA.out
      clear HA
      simp only [fullerlaw02_ShapeTells.j0] at H
      by_cases c8 : x29_4 = true
      · subst c8
        have H1 : (some t263) = some r := by rw [if_pos rfl] at H; exact H
        clear H
        have H := H1
        clear H1
        obtain rfl := Option.some.inj H
        go_wp2
        go_ret
        exact ⟨by first | rfl | (simp [errW_none, errW_some] <;> rfl) | (simp [*, errW_none, errW_some] <;> rfl), by repeat (first | (with_reducible first | exact HB.out | apply below_alloc | apply pw_below_drewN | apply below_drew1) | exact HB.out)⟩
      · replace c8 := Bool.eq_false_iff.mpr c8
        subst c8
        have H1 : ((shape_Place.f kj4 l0 l1).bind fun bt264 => ((fullerref02_Place.f kj4 l0 l1).bind fun bt266 => ((shape_Index.f kj4 l0 a2).bind fun bt268 => ((fullerref02_Index.f kj4 l0 a2).bind fun bt272 => ((shape_Join.f kj4 l0 l1).bind fun bt276 => ((fullerref02_Join.f kj4 l0 l1).bind fun bt280 => (if bt264.1 = bt266.1 then (if bt264.2 = bt266.2 then ((fullerref02_Same.f kj4 bt268.1 bt272.1).bind fun t284 => (if t284 = true then (if bt268.2 = bt272.2 then ((fullerref02_Same.f kj4 bt276.1 bt280.1).bind fun t285 => (if t285 = true then (fullerlaw02_ShapeTells.j1 kj4 l0 l1 t263 (bt276.2 == bt280.2)) else (fullerlaw02_ShapeTells.j1 kj4 l0 l1 t263 false))) else (fullerlaw02_ShapeTells.j1 kj4 l0 l1 t263 false)) else (fullerlaw02_ShapeTells.j1 kj4 l0 l1 t263 false))) else (fullerlaw02_ShapeTells.j1 kj4 l0 l1 t263 false)) else (fullerlaw02_ShapeTells.j1 kj4 l0 l1 t263 false)))))))) = some r := by rw [if_neg (show ¬ (false = true) by decide)] at H; exact H
        clear H
        have H := H1
        clear H1
        replace H := Option.bind_eq_some_iff.mp H
        obtain ⟨⟨t264, t265⟩, A90, H⟩ := H
        replace H : ((fullerref02_Place.f kj4 l0 l1).bind fun bt266 => ((shape_Index.f kj4 l0 a2).bind fun bt268 => ((fullerref02_Index.f kj4 l0 a2).bind fun bt272 => ((shape_Join.f kj4 l0 l1).bind fun bt276 => ((fullerref02_Join.f kj4 l0 l1).bind fun bt280 => (if t264 = bt266.1 then (if t265 = bt266.2 then ((fullerref02_Same.f kj4 bt268.1 bt272.1).bind fun t284 => (if t284 = true then (if bt268.2 = bt272.2 then ((fullerref02_Same.f kj4 bt276.1 bt280.1).bind fun t285 => (if t285 = true then (fullerlaw02_ShapeTells.j1 kj4 l0 l1 t263 (bt276.2 == bt280.2)) else (fullerlaw02_ShapeTells.j1 kj4 l0 l1 t263 false))) else (fullerlaw02_ShapeTells.j1 kj4 l0 l1 t263 false)) else (fullerlaw02_ShapeTells.j1 kj4 l0 l1 t263 false))) else (fullerlaw02_ShapeTells.j1 kj4 l0 l1 t263 false)) else (fullerlaw02_ShapeTells.j1 kj4 l0 l1 t263 false))))))) = some r := H
        have A9 := Aside0.mk A90
        clear A90
        replace H := Option.bind_eq_some_iff.mp H
        obtain ⟨⟨t266, t267⟩, A100, H⟩ := H
        replace H : ((shape_Index.f kj4 l0 a2).bind fun bt268 => ((fullerref02_Index.f kj4 l0 a2).bind fun bt272 => ((shape_Join.f kj4 l0 l1).bind fun bt276 => ((fullerref02_Join.f kj4 l0 l1).bind fun bt280 => (if t264 = t266 then (if t265 = t267 then ((fullerref02_Same.f kj4 bt268.1 bt272.1).bind fun t284 => (if t284 = true then (if bt268.2 = bt272.2 then ((fullerref02_Same.f kj4 bt276.1 bt280.1).bind fun t285 => (if t285 = true then (fullerlaw02_ShapeTells.j1 kj4 l0 l1 t263 (bt276.2 == bt280.2)) else (fullerlaw02_ShapeTells.j1 kj4 l0 l1 t263 false))) else (fullerlaw02_ShapeTells.j1 kj4 l0 l1 t263 false)) else (fullerlaw02_ShapeTells.j1 kj4 l0 l1 t263 false))) else (fullerlaw02_ShapeTells.j1 kj4 l0 l1 t263 false)) else (fullerlaw02_ShapeTells.j1 kj4 l0 l1 t263 false)))))) = some r := H
        have A10 := Aside0.mk A100
        clear A100
        replace H := Option.bind_eq_some_iff.mp H
        obtain ⟨⟨t268, t269⟩, A110, H⟩ := H
        replace H : ((fullerref02_Index.f kj4 l0 a2).bind fun bt272 => ((shape_Join.f kj4 l0 l1).bind fun bt276 => ((fullerref02_Join.f kj4 l0 l1).bind fun bt280 => (if t264 = t266 then (if t265 = t267 then ((fullerref02_Same.f kj4 t268 bt272.1).bind fun t284 => (if t284 = true then (if t269 = bt272.2 then ((fullerref02_Same.f kj4 bt276.1 bt280.1).bind fun t285 => (if t285 = true then (fullerlaw02_ShapeTells.j1 kj4 l0 l1 t263 (bt276.2 == bt280.2)) else (fullerlaw02_ShapeTells.j1 kj4 l0 l1 t263 false))) else (fullerlaw02_ShapeTells.j1 kj4 l0 l1 t263 false)) else (fullerlaw02_ShapeTells.j1 kj4 l0 l1 t263 false))) else (fullerlaw02_ShapeTells.j1 kj4 l0 l1 t263 false)) else (fullerlaw02_ShapeTells.j1 kj4 l0 l1 t263 false))))) = some r := H
        have A11 := Aside0.mk A110
        clear A110
        replace H := Option.bind_eq_some_iff.mp H
        obtain ⟨⟨t272, t273⟩, A120, H⟩ := H
        replace H : ((shape_Join.f kj4 l0 l1).bind fun bt276 => ((fullerref02_Join.f kj4 l0 l1).bind fun bt280 => (if t264 = t266 then (if t265 = t267 then ((fullerref02_Same.f kj4 t268 t272).bind fun t284 => (if t284 = true then (if t269 = t273 then ((fullerref02_Same.f kj4 bt276.1 bt280.1).bind fun t285 => (if t285 = true then (fullerlaw02_ShapeTells.j1 kj4 l0 l1 t263 (bt276.2 == bt280.2)) else (fullerlaw02_ShapeTells.j1 kj4 l0 l1 t263 false))) else (fullerlaw02_ShapeTells.j1 kj4 l0 l1 t263 false)) else (fullerlaw02_ShapeTells.j1 kj4 l0 l1 t263 false))) else (fullerlaw02_ShapeTells.j1 kj4 l0 l1 t263 false)) else (fullerlaw02_ShapeTells.j1 kj4 l0 l1 t263 false)))) = some r := H
        have A12 := Aside0.mk A120
        clear A120
        replace H := Option.bind_eq_some_iff.mp H
        obtain ⟨⟨t276, t277⟩, A130, H⟩ := H
        replace H : ((fullerref02_Join.f kj4 l0 l1).bind fun bt280 => (if t264 = t266 then (if t265 = t267 then ((fullerref02_Same.f kj4 t268 t272).bind fun t284 => (if t284 = true then (if t269 = t273 then ((fullerref02_Same.f kj4 t276 bt280.1).bind fun t285 => (if t285 = true then (fullerlaw02_ShapeTells.j1 kj4 l0 l1 t263 (t277 == bt280.2)) else (fullerlaw02_ShapeTells.j1 kj4 l0 l1 t263 false))) else (fullerlaw02_ShapeTells.j1 kj4 l0 l1 t263 false)) else (fullerlaw02_ShapeTells.j1 kj4 l0 l1 t263 false))) else (fullerlaw02_ShapeTells.j1 kj4 l0 l1 t263 false)) else (fullerlaw02_ShapeTells.j1 kj4 l0 l1 t263 false))) = some r := H
        have A13 := Aside0.mk A130
        clear A130
        replace H := Option.bind_eq_some_iff.mp H
        obtain ⟨⟨t280, t281⟩, A140, H⟩ := H
        replace H : (if t264 = t266 then (if t265 = t267 then ((fullerref02_Same.f kj4 t268 t272).bind fun t284 => (if t284 = true then (if t269 = t273 then ((fullerref02_Same.f kj4 t276 t280).bind fun t285 => (if t285 = true then (fullerlaw02_ShapeTells.j1 kj4 l0 l1 t263 (t277 == t281)) else (fullerlaw02_ShapeTells.j1 kj4 l0 l1 t263 false))) else (fullerlaw02_ShapeTells.j1 kj4 l0 l1 t263 false)) else (fullerlaw02_ShapeTells.j1 kj4 l0 l1 t263 false))) else (fullerlaw02_ShapeTells.j1 kj4 l0 l1 t263 false)) else (fullerlaw02_ShapeTells.j1 kj4 l0 l1 t263 false)) = some r := H
        have A14 := Aside0.mk A140
        clear A140
        have HC15 := Aside0.mk H
        clear H
        go_upto_region 10 with (first | ((with_reducible refine gate_callee (f := 11) rfl ?_); refine goesL_ (some 34) rfl rfl Try.func11 (by kernel_rfl) rfl #[.slice A0 l0.length c0, .slice A1 l1.length c1] rfl (by (try simp only [List.map_toArray, List.map_cons, List.map_nil]); first | done | rfl | (simp only [List.length_drop, List.length_take]; rfl)) ?_; (with_reducible refine (shape_Place.calls kj4 _ _ l0 _ _ l1 t264 t265 _ ?side1 ?side2 ?side3 ?side4 A9.out).mono ?_); (case side1 => repeat (first | exact (Kd.C_below HR0.out HB.out) | (with_reducible refine Kd.C_alloc ?_ _) | (with_reducible refine Kd.C_drewN ?_ _) | (with_reducible refine Kd.C_drew ?_))); (case side2 => exact HC0.out); (case side3 => repeat (first | exact (Kd.C_below HR1.out HB.out) | (with_reducible refine Kd.C_alloc ?_ _) | (with_reducible refine Kd.C_drewN ?_ _) | (with_reducible refine Kd.C_drew ?_))); (case side4 => exact HC1.out); rintro e w' ⟨rfl, ⟨nd, rfl⟩⟩; refine ⟨_, rfl, ?_⟩) | ((with_reducible refine gate_callee (f := 12) rfl ?_); refine goesL_ (some 40) rfl rfl Try.func12 (by kernel_rfl) rfl #[.slice A0 l0.length c0, .slice A1 l1.length c1] rfl (by (try simp only [List.map_toArray, List.map_cons, List.map_nil]); first | done | rfl | (simp only [List.length_drop, List.length_take]; rfl)) ?_; (with_reducible refine (fullerref02_Place.calls kj4 _ _ l0 _ _ l1 t266 t267 _ ?side1 ?side2 ?side3 ?side4 A10.out).mono ?_); (case side1 => repeat (first | exact (Kd.C_below HR0.out (by repeat (first | (with_reducible first | exact HB.out | apply below_alloc | apply pw_below_drewN | apply below_drew1) | exact HB.out))) | (with_reducible refine Kd.C_alloc ?_ _) | (with_reducible refine Kd.C_drewN ?_ _) | (with_reducible refine Kd.C_drew ?_))); (case side2 => exact HC0.out); (case side3 => repeat (first | exact (Kd.C_below HR1.out (by repeat (first | (with_reducible first | exact HB.out | apply below_alloc | apply pw_below_drewN | apply below_drew1) | exact HB.out))) | (with_reducible refine Kd.C_alloc ?_ _) | (with_reducible refine Kd.C_drewN ?_ _) | (with_reducible refine Kd.C_drew ?_))); (case side4 => exact HC1.out); rintro e w16 ⟨rfl, hb⟩; refine ⟨_, rfl, ?_⟩; have n0_ := Aside0.mk (below_step (by repeat (first | (with_reducible first | exact HB.out | apply below_alloc | apply pw_below_drewN | apply below_drew1) | exact HB.out)) hb); clear HB; have HB := n0_; clear n0_; (try clear hb); (try clear hb2); (try clear hk); (try clear hi)) | ((with_reducible refine gate_callee (f := 13) rfl ?_); refine goesL_ (some 46) rfl rfl Try.func13 (by kernel_rfl) rfl #[.slice A0 l0.length c0, .int .i64 a2] rfl (by (try simp only [List.map_toArray, List.map_cons, List.map_nil]); first | done | rfl | (simp only [List.length_drop, List.length_take]; rfl)) ?_; (with_reducible refine (shape_Index.calls kj4 _ _ l0 a2 t268 t269 _ ?side1 ?side2 A11.out).mono ?_); (case side1 => repeat (first | exact (Kd.C_below HR0.out HB.out) | (with_reducible refine Kd.C_alloc ?_ _) | (with_reducible refine Kd.C_drewN ?_ _) | (with_reducible refine Kd.C_drew ?_))); (case side2 => exact HC0.out); rintro e w17 ⟨v270, rfl, ho0, hb⟩; refine ⟨_, rfl, ?_⟩; have n0_ := Aside0.mk (Kd.R_lower ho0 (below_size (by repeat (first | (with_reducible first | exact HB.out | apply below_alloc | apply pw_below_drewN | apply below_drew1) | exact HB.out)))); have n1_ := Aside0.mk (below_step (by repeat (first | (with_reducible first | exact HB.out | apply below_alloc | apply pw_below_drewN | apply below_drew1) | exact HB.out)) hb); clear HB; have HO271 := n0_; have HB := n1_; clear n0_ n1_; (try clear hb); (try clear hb2); (try clear hk); (try clear hi); (try clear ho0)) | ((with_reducible refine gate_callee (f := 14) rfl ?_); refine goesL_ (some 52) rfl rfl Try.func14 (by kernel_rfl) rfl #[.slice A0 l0.length c0, .int .i64 a2] rfl (by (try simp only [List.map_toArray, List.map_cons, List.map_nil]); first | done | rfl | (simp only [List.length_drop, List.length_take]; rfl)) ?_; (with_reducible refine (fullerref02_Index.calls kj4 _ _ l0 a2 t272 t273 _ ?side1 ?side2 A12.out).mono ?_); (case side1 => repeat (first | exact (Kd.C_below HR0.out HB.out) | (with_reducible refine Kd.C_alloc ?_ _) | (with_reducible refine Kd.C_drewN ?_ _) | (with_reducible refine Kd.C_drew ?_))); (case side2 => exact HC0.out); rintro e w18 ⟨v274, rfl, ho0, hb⟩; refine ⟨_, rfl, ?_⟩; have n0_ := Aside0.mk (Kd.R_elder' (by (with_reducible repeat (first | apply Kd.R_alloc | apply Kd.R_drewN | apply Kd.R_drew)); exact HO271.out) (Kd.R_base ho0) hb); have n1_ := Aside0.mk (Kd.R_lower (Kd.R_new' ho0 (Kd.R_lt (by (with_reducible repeat (first | apply Kd.R_alloc | apply Kd.R_drewN | apply Kd.R_drew)); exact HO271.out))) (below_size (by repeat (first | (with_reducible first | exact HB.out | apply below_alloc | apply pw_below_drewN | apply below_drew1) | exact HB.out)))); have n2_ := Aside0.mk (below_step (by repeat (first | (with_reducible first | exact HB.out | apply below_alloc | apply pw_below_drewN | apply below_drew1) | exact HB.out)) hb); clear HO271; clear HB; have HO271 := n0_; have HO275 := n1_; have HB := n2_; clear n0_ n1_ n2_; (try clear hb); (try clear hb2); (try clear hk); (try clear hi); (try clear ho0)) | ((with_reducible refine gate_callee (f := 15) rfl ?_); refine goesL_ (some 58) rfl rfl Try.func15 (by kernel_rfl) rfl #[.slice A0 l0.length c0, .slice A1 l1.length c1] rfl (by (try simp only [List.map_toArray, List.map_cons, List.map_nil]); first | done | rfl | (simp only [List.length_drop, List.length_take]; rfl)) ?_; (with_reducible refine (shape_Join.calls kj4 _ _ l0 _ _ l1 t276 t277 _ ?side1 ?side2 ?side3 ?side4 A13.out).mono ?_); (case side1 => repeat (first | exact (Kd.C_below HR0.out HB.out) | (with_reducible refine Kd.C_alloc ?_ _) | (with_reducible refine Kd.C_drewN ?_ _) | (with_reducible refine Kd.C_drew ?_))); (case side2 => exact HC0.out); (case side3 => repeat (first | exact (Kd.C_below HR1.out HB.out) | (with_reducible refine Kd.C_alloc ?_ _) | (with_reducible refine Kd.C_drewN ?_ _) | (with_reducible refine Kd.C_drew ?_))); (case side4 => exact HC1.out); rintro e w19 ⟨v278, rfl, ho0, hb⟩; refine ⟨_, rfl, ?_⟩; have n0_ := Aside0.mk (Kd.R_elder' (by (with_reducible repeat (first | apply Kd.R_alloc | apply Kd.R_drewN | apply Kd.R_drew)); exact HO271.out) (Kd.R_base ho0) hb); have n1_ := Aside0.mk (Kd.R_elder' (by (with_reducible repeat (first | apply Kd.R_alloc | apply Kd.R_drewN | apply Kd.R_drew)); exact HO275.out) (Kd.R_base ho0) hb); have n2_ := Aside0.mk (Kd.R_lower (Kd.R_new' (Kd.R_new' ho0 (Kd.R_lt (by (with_reducible repeat (first | apply Kd.R_alloc | apply Kd.R_drewN | apply Kd.R_drew)); exact HO271.out))) (Kd.R_lt (by (with_reducible repeat (first | apply Kd.R_alloc | apply Kd.R_drewN | apply Kd.R_drew)); exact HO275.out))) (below_size (by repeat (first | (with_reducible first | exact HB.out | apply below_alloc | apply pw_below_drewN | apply below_drew1) | exact HB.out)))); have n3_ := Aside0.mk (below_step (by repeat (first | (with_reducible first | exact HB.out | apply below_alloc | apply pw_below_drewN | apply below_drew1) | exact HB.out)) hb); clear HO271; clear HO275; clear HB; have HO271 := n0_; have HO275 := n1_; have HO279 := n2_; have HB := n3_; clear n0_ n1_ n2_ n3_; (try clear hb); (try clear hb2); (try clear hk); (try clear hi); (try clear ho0)) | ((with_reducible refine gate_callee (f := 16) rfl ?_); refine goesL_ (some 64) rfl rfl Try.func16 (by kernel_rfl) rfl #[.slice A0 l0.length c0, .slice A1 l1.length c1] rfl (by (try simp only [List.map_toArray, List.map_cons, List.map_nil]); first | done | rfl | (simp only [List.length_drop, List.length_take]; rfl)) ?_; (with_reducible refine (fullerref02_Join.calls kj4 _ _ l0 _ _ l1 t280 t281 _ ?side1 ?side2 ?side3 ?side4 A14.out).mono ?_); (case side1 => repeat (first | exact (Kd.C_below HR0.out HB.out) | (with_reducible refine Kd.C_alloc ?_ _) | (with_reducible refine Kd.C_drewN ?_ _) | (with_reducible refine Kd.C_drew ?_))); (case side2 => exact HC0.out); (case side3 => repeat (first | exact (Kd.C_below HR1.out HB.out) | (with_reducible refine Kd.C_alloc ?_ _) | (with_reducible refine Kd.C_drewN ?_ _) | (with_reducible refine Kd.C_drew ?_))); (case side4 => exact HC1.out); rintro e w20 ⟨v282, rfl, ho0, hb⟩; refine ⟨_, rfl, ?_⟩; have n0_ := Aside0.mk (Kd.R_elder' (by (with_reducible repeat (first | apply Kd.R_alloc | apply Kd.R_drewN | apply Kd.R_drew)); exact HO271.out) (Kd.R_base ho0) hb); have n1_ := Aside0.mk (Kd.R_elder' (by (with_reducible repeat (first | apply Kd.R_alloc | apply Kd.R_drewN | apply Kd.R_drew)); exact HO275.out) (Kd.R_base ho0) hb); have n2_ := Aside0.mk (Kd.R_elder' (by (with_reducible repeat (first | apply Kd.R_alloc | apply Kd.R_drewN | apply Kd.R_drew)); exact HO279.out) (Kd.R_base ho0) hb); have n3_ := Aside0.mk (Kd.R_lower (Kd.R_new' (Kd.R_new' (Kd.R_new' ho0 (Kd.R_lt (by (with_reducible repeat (first | apply Kd.R_alloc | apply Kd.R_drewN | apply Kd.R_drew)); exact HO271.out))) (Kd.R_lt (by (with_reducible repeat (first | apply Kd.R_alloc | apply Kd.R_drewN | apply Kd.R_drew)); exact HO275.out))) (Kd.R_lt (by (with_reducible repeat (first | apply Kd.R_alloc | apply Kd.R_drewN | apply Kd.R_drew)); exact HO279.out))) (below_size (by repeat (first | (with_reducible first | exact HB.out | apply below_alloc | apply pw_below_drewN | apply below_drew1) | exact HB.out)))); have n4_ := Aside0.mk (below_step (by repeat (first | (with_reducible first | exact HB.out | apply below_alloc | apply pw_below_drewN | apply below_drew1) | exact HB.out)) hb); clear HO271; clear HO275; clear HO279; clear HB; have HO271 := n0_; have HO275 := n1_; have HO279 := n2_; have HO283 := n3_; have HB := n4_; clear n0_ n1_ n2_ n3_ n4_; (try clear hb); (try clear hb2); (try clear hk); (try clear hi); (try clear ho0)))
        (try simp only [Act.put, List.setIfInBounds_toArray, List.set_cons_zero, List.set_cons_succ])
        go_cut [20] (fun v20 wc => ∃ (kq : Nat) (x20_14 : Bool), v20 = .bool x20_14 ∧ Aside0 (fullerlaw02_ShapeTells.j1 kq l0 l1 t263 x20_14 = some r) ∧ Aside0 (kq ≤ kj4) ∧ Aside0 (Below w.heap.size w wc))
        case first =>
          have H := HC15.out
          clear HC15
          by_cases c21 : t264 = t266
          · rw [if_pos c21] at H
            have c21b0 : (t264 == t266) = true := beq_iff_eq.mpr c21
            have c21b1 : (t264 != t266) = false := bne_eq_false_iff_eq.mpr c21
            clear c21
            (first | rw [c21b0] | (simp only [i64_w, i32_w]; rw [c21b0]) | skip)
            by_cases c22 : t265 = t267
            · rw [if_pos c22] at H
              have c22b0 : (t265 == t267) = true := beq_iff_eq.mpr c22
              have c22b1 : (t265 != t267) = false := bne_eq_false_iff_eq.mpr c22
              clear c22
              replace H := Option.bind_eq_some_iff.mp H
              obtain ⟨t284, A230, H⟩ := H
              replace H : (if t284 = true then (if t269 = t273 then ((fullerref02_Same.f kj4 t276 t280).bind fun t285 => (if t285 = true then (fullerlaw02_ShapeTells.j1 kj4 l0 l1 t263 (t277 == t281)) else (fullerlaw02_ShapeTells.j1 kj4 l0 l1 t263 false))) else (fullerlaw02_ShapeTells.j1 kj4 l0 l1 t263 false)) else (fullerlaw02_ShapeTells.j1 kj4 l0 l1 t263 false)) = some r := H
              have A23 := Aside0.mk A230
              clear A230
              by_cases c24 : t284 = true
              · subst c24
                have H1 : (if t269 = t273 then ((fullerref02_Same.f kj4 t276 t280).bind fun t285 => (if t285 = true then (fullerlaw02_ShapeTells.j1 kj4 l0 l1 t263 (t277 == t281)) else (fullerlaw02_ShapeTells.j1 kj4 l0 l1 t263 false))) else (fullerlaw02_ShapeTells.j1 kj4 l0 l1 t263 false)) = some r := by rw [if_pos rfl] at H; exact H
                clear H
                have H := H1
                clear H1
                by_cases c25 : t269 = t273
                · rw [if_pos c25] at H
                  have c25b0 : (t269 == t273) = true := beq_iff_eq.mpr c25
                  have c25b1 : (t269 != t273) = false := bne_eq_false_iff_eq.mpr c25
                  clear c25
                  replace H := Option.bind_eq_some_iff.mp H
                  obtain ⟨t285, A260, H⟩ := H
                  replace H : (if t285 = true then (fullerlaw02_ShapeTells.j1 kj4 l0 l1 t263 (t277 == t281)) else (fullerlaw02_ShapeTells.j1 kj4 l0 l1 t263 false)) = some r := H
                  have A26 := Aside0.mk A260
                  clear A260
                  by_cases c27 : t285 = true
                  · subst c27
                    have H1 : (fullerlaw02_ShapeTells.j1 kj4 l0 l1 t263 (t277 == t281)) = some r := by rw [if_pos rfl] at H; exact H
                    clear H
                    have H := H1
                    clear H1
                    have H' := Aside0.mk H
                    clear H
                    obtain ⟨Ao28, co28, eo28⟩ := Kd.R_slice HO271.out
                    subst eo28
                    obtain ⟨Ao29, co29, eo29⟩ := Kd.R_slice HO275.out
                    subst eo29
                    go_wp2_with (first | (go_at_call 17; (with_reducible refine (fullerref02_Same.calls kj4 _ _ t268 _ _ t272 true _ ?side1 ?side2 ?side3 ?side4 A23.out).mono ?_); (case side1 => repeat (first | exact (Kd.R_reads' HO271.out).2.2 | (with_reducible refine Kd.C_alloc ?_ _) | (with_reducible refine Kd.C_drewN ?_ _) | (with_reducible refine Kd.C_drew ?_))); (case side2 => exact (Kd.R_reads' HO271.out).2.1); (case side3 => repeat (first | exact (Kd.R_reads' HO275.out).2.2 | (with_reducible refine Kd.C_alloc ?_ _) | (with_reducible refine Kd.C_drewN ?_ _) | (with_reducible refine Kd.C_drew ?_))); (case side4 => exact (Kd.R_reads' HO275.out).2.1); rintro e w' ⟨rfl, ⟨nd, rfl⟩⟩; obtain ⟨Ao30, co30, eo30⟩ := Kd.R_slice HO279.out; subst eo30; obtain ⟨Ao31, co31, eo31⟩ := Kd.R_slice HO283.out; subst eo31) | (go_at_call 17; (with_reducible refine (fullerref02_Same.calls kj4 _ _ t276 _ _ t280 true _ ?side1 ?side2 ?side3 ?side4 A26.out).mono ?_); (case side1 => repeat (first | exact (Kd.R_reads' HO279.out).2.2 | (with_reducible refine Kd.C_alloc ?_ _) | (with_reducible refine Kd.C_drewN ?_ _) | (with_reducible refine Kd.C_drew ?_))); (case side2 => exact (Kd.R_reads' HO279.out).2.1); (case side3 => repeat (first | exact (Kd.R_reads' HO283.out).2.2 | (with_reducible refine Kd.C_alloc ?_ _) | (with_reducible refine Kd.C_drewN ?_ _) | (with_reducible refine Kd.C_drew ?_))); (case side4 => exact (Kd.R_reads' HO283.out).2.1); rintro e w' ⟨rfl, ⟨nd, rfl⟩⟩))
                    go_meet
                    case rel => exact ⟨_, ((t277 == t281)), (by first | rfl | (simp; done) | (simp [*]; done)), H', ⟨by have := HJ4.out; first | omega | exact Nat.le_refl _⟩, ⟨by repeat (first | (with_reducible first | exact HB.out | apply below_alloc | apply pw_below_drewN | apply below_drew1) | exact HB.out)⟩⟩
                  · replace c27 := Bool.eq_false_iff.mpr c27
                    subst c27
                    have H1 : (fullerlaw02_ShapeTells.j1 kj4 l0 l1 t263 false) = some r := by rw [if_neg (show ¬ (false = true) by decide)] at H; exact H
                    clear H
                    have H := H1
                    clear H1
                    have H' := Aside0.mk H
                    clear H
                    obtain ⟨Ao32, co32, eo32⟩ := Kd.R_slice HO271.out
                    subst eo32
                    obtain ⟨Ao33, co33, eo33⟩ := Kd.R_slice HO275.out
                    subst eo33
                    go_wp2_with (first | (go_at_call 17; (with_reducible refine (fullerref02_Same.calls kj4 _ _ t268 _ _ t272 true _ ?side1 ?side2 ?side3 ?side4 A23.out).mono ?_); (case side1 => repeat (first | exact (Kd.R_reads' HO271.out).2.2 | (with_reducible refine Kd.C_alloc ?_ _) | (with_reducible refine Kd.C_drewN ?_ _) | (with_reducible refine Kd.C_drew ?_))); (case side2 => exact (Kd.R_reads' HO271.out).2.1); (case side3 => repeat (first | exact (Kd.R_reads' HO275.out).2.2 | (with_reducible refine Kd.C_alloc ?_ _) | (with_reducible refine Kd.C_drewN ?_ _) | (with_reducible refine Kd.C_drew ?_))); (case side4 => exact (Kd.R_reads' HO275.out).2.1); rintro e w' ⟨rfl, ⟨nd, rfl⟩⟩; obtain ⟨Ao34, co34, eo34⟩ := Kd.R_slice HO279.out; subst eo34; obtain ⟨Ao35, co35, eo35⟩ := Kd.R_slice HO283.out; subst eo35) | (go_at_call 17; (with_reducible refine (fullerref02_Same.calls kj4 _ _ t276 _ _ t280 false _ ?side1 ?side2 ?side3 ?side4 A26.out).mono ?_); (case side1 => repeat (first | exact (Kd.R_reads' HO279.out).2.2 | (with_reducible refine Kd.C_alloc ?_ _) | (with_reducible refine Kd.C_drewN ?_ _) | (with_reducible refine Kd.C_drew ?_))); (case side2 => exact (Kd.R_reads' HO279.out).2.1); (case side3 => repeat (first | exact (Kd.R_reads' HO283.out).2.2 | (with_reducible refine Kd.C_alloc ?_ _) | (with_reducible refine Kd.C_drewN ?_ _) | (with_reducible refine Kd.C_drew ?_))); (case side4 => exact (Kd.R_reads' HO283.out).2.1); rintro e w' ⟨rfl, ⟨nd, rfl⟩⟩))
                    go_meet
                    case rel => exact ⟨_, (false), (by first | rfl | (simp; done) | (simp [*]; done)), H', ⟨by have := HJ4.out; first | omega | exact Nat.le_refl _⟩, ⟨by repeat (first | (with_reducible first | exact HB.out | apply below_alloc | apply pw_below_drewN | apply below_drew1) | exact HB.out)⟩⟩
                · rw [if_neg c25] at H
                  have c25b0 : (t269 == t273) = false := beq_eq_false_iff_ne.mpr c25
                  have c25b1 : (t269 != t273) = true := bne_iff_ne.mpr c25
                  have H' := Aside0.mk H
                  clear H
                  obtain ⟨Ao36, co36, eo36⟩ := Kd.R_slice HO271.out
                  subst eo36
                  obtain ⟨Ao37, co37, eo37⟩ := Kd.R_slice HO275.out
                  subst eo37
                  go_wp2_with (first | (go_at_call 17; (with_reducible refine (fullerref02_Same.calls kj4 _ _ t268 _ _ t272 true _ ?side1 ?side2 ?side3 ?side4 A23.out).mono ?_); (case side1 => repeat (first | exact (Kd.R_reads' HO271.out).2.2 | (with_reducible refine Kd.C_alloc ?_ _) | (with_reducible refine Kd.C_drewN ?_ _) | (with_reducible refine Kd.C_drew ?_))); (case side2 => exact (Kd.R_reads' HO271.out).2.1); (case side3 => repeat (first | exact (Kd.R_reads' HO275.out).2.2 | (with_reducible refine Kd.C_alloc ?_ _) | (with_reducible refine Kd.C_drewN ?_ _) | (with_reducible refine Kd.C_drew ?_))); (case side4 => exact (Kd.R_reads' HO275.out).2.1); rintro e w' ⟨rfl, ⟨nd, rfl⟩⟩))
                  go_meet
                  case rel => exact ⟨_, (false), (by first | rfl | (simp; done) | (simp [*]; done)), H', ⟨by have := HJ4.out; first | omega | exact Nat.le_refl _⟩, ⟨by repeat (first | (with_reducible first | exact HB.out | apply below_alloc | apply pw_below_drewN | apply below_drew1) | exact HB.out)⟩⟩
              · replace c24 := Bool.eq_false_iff.mpr c24
                subst c24
                have H1 : (fullerlaw02_ShapeTells.j1 kj4 l0 l1 t263 false) = some r := by rw [if_neg (show ¬ (false = true) by decide)] at H; exact H
                clear H
                have H := H1
                clear H1
                have H' := Aside0.mk H
                clear H
                obtain ⟨Ao38, co38, eo38⟩ := Kd.R_slice HO271.out
                subst eo38
                obtain ⟨Ao39, co39, eo39⟩ := Kd.R_slice HO275.out
                subst eo39
                go_wp2_with (first | (go_at_call 17; (with_reducible refine (fullerref02_Same.calls kj4 _ _ t268 _ _ t272 false _ ?side1 ?side2 ?side3 ?side4 A23.out).mono ?_); (case side1 => repeat (first | exact (Kd.R_reads' HO271.out).2.2 | (with_reducible refine Kd.C_alloc ?_ _) | (with_reducible refine Kd.C_drewN ?_ _) | (with_reducible refine Kd.C_drew ?_))); (case side2 => exact (Kd.R_reads' HO271.out).2.1); (case side3 => repeat (first | exact (Kd.R_reads' HO275.out).2.2 | (with_reducible refine Kd.C_alloc ?_ _) | (with_reducible refine Kd.C_drewN ?_ _) | (with_reducible refine Kd.C_drew ?_))); (case side4 => exact (Kd.R_reads' HO275.out).2.1); rintro e w' ⟨rfl, ⟨nd, rfl⟩⟩))
                go_meet
                case rel => exact ⟨_, (false), (by first | rfl | (simp; done) | (simp [*]; done)), H', ⟨by have := HJ4.out; first | omega | exact Nat.le_refl _⟩, ⟨by repeat (first | (with_reducible first | exact HB.out | apply below_alloc | apply pw_below_drewN | apply below_drew1) | exact HB.out)⟩⟩
            · rw [if_neg c22] at H
              have c22b0 : (t265 == t267) = false := beq_eq_false_iff_ne.mpr c22
              have c22b1 : (t265 != t267) = true := bne_iff_ne.mpr c22
              have H' := Aside0.mk H
              clear H
              go_wp2
              go_meet
              case rel => exact ⟨_, (false), (by first | rfl | (simp; done) | (simp [*]; done)), H', ⟨by have := HJ4.out; first | omega | exact Nat.le_refl _⟩, ⟨by repeat (first | (with_reducible first | exact HB.out | apply below_alloc | apply pw_below_drewN | apply below_drew1) | exact HB.out)⟩⟩
          · rw [if_neg c21] at H
            have c21b0 : (t264 == t266) = false := beq_eq_false_iff_ne.mpr c21
            have c21b1 : (t264 != t266) = true := bne_iff_ne.mpr c21
            (first | rw [c21b0] | (simp only [i64_w, i32_w]; rw [c21b0]) | skip)
            have H' := Aside0.mk H
            clear H
            go_wp2
            go_meet
            case rel => exact ⟨_, (false), (by first | rfl | (simp; done) | (simp [*]; done)), H', ⟨by have := HJ4.out; first | omega | exact Nat.le_refl _⟩, ⟨by repeat (first | (with_reducible first | exact HB.out | apply below_alloc | apply pw_below_drewN | apply below_drew1) | exact HB.out)⟩⟩
        case rest =>
          clear HC15
          try clear c1
          try clear c2
          try clear p2
          try clear c3
          try clear c7
          try clear c7b0
          try clear c7b1
          try clear c8
          try clear c10
          try clear c11
          try clear c12
          try clear c13
          try clear c14
          try clear c15
          try clear c16
          try clear c21
          try clear c21b0
          try clear c21b1
          try clear c22
          try clear c22b0
          try clear c22b1
          try clear c24
          try clear c25
          try clear c25b0
          try clear c25b1
          try clear c27
          try clear p2
          obtain ⟨kq, x20_14, rfl, HA, HJ14, HB⟩ := hcut
          cases kq with
          | zero => exact absurd HA.out (by simp [fullerlaw02_ShapeTells.j1])
          | succ kj14 =>
            have H := HA.out
            clear HA
            simp only [fullerlaw02_ShapeTells.j1] at H
            by_cases c40 : t263 = true
            · subst c40
              have H1 : (if x20_14 = true then ((shape_Check.f kj14 l0).bind fun t286 => ((fullerref02_Check.f kj14 l0).bind fun t287 => (if (t286 == t287) = true then ((shape_Size.f kj14 l0).bind fun t288 => ((fullerref02_Size.f kj14 l0).bind fun t289 => (if t288 = t289 then ((shape_Fits.f kj14 l0 l1).bind fun t290 => ((fullerref02_Fits.f kj14 l0 l1).bind fun t291 => (some (t290 == t291)))) else (some false)))) else (some false)))) else (some false)) = some r := by rw [if_pos rfl] at H; exact H
              clear H
              have H := H1
              clear H1
              by_cases c41 : x20_14 = true
              · subst c41
                have H1 : ((shape_Check.f kj14 l0).bind fun t286 => ((fullerref02_Check.f kj14 l0).bind fun t287 => (if (t286 == t287) = true then ((shape_Size.f kj14 l0).bind fun t288 => ((fullerref02_Size.f kj14 l0).bind fun t289 => (if t288 = t289 then ((shape_Fits.f kj14 l0 l1).bind fun t290 => ((fullerref02_Fits.f kj14 l0 l1).bind fun t291 => (some (t290 == t291)))) else (some false)))) else (some false)))) = some r := by rw [if_pos rfl] at H; exact H
                clear H
                have H := H1
                clear H1
                replace H := Option.bind_eq_some_iff.mp H
                obtain ⟨t286, A420, H⟩ := H
                replace H : ((fullerref02_Check.f kj14 l0).bind fun t287 => (if (t286 == t287) = true then ((shape_Size.f kj14 l0).bind fun t288 => ((fullerref02_Size.f kj14 l0).bind fun t289 => (if t288 = t289 then ((shape_Fits.f kj14 l0 l1).bind fun t290 => ((fullerref02_Fits.f kj14 l0 l1).bind fun t291 => (some (t290 == t291)))) else (some false)))) else (some false))) = some r := H
                have A42 := Aside0.mk A420
                clear A420
                replace H := Option.bind_eq_some_iff.mp H
                obtain ⟨t287, A430, H⟩ := H
                replace H : (if (t286 == t287) = true then ((shape_Size.f kj14 l0).bind fun t288 => ((fullerref02_Size.f kj14 l0).bind fun t289 => (if t288 = t289 then ((shape_Fits.f kj14 l0 l1).bind fun t290 => ((fullerref02_Fits.f kj14 l0 l1).bind fun t291 => (some (t290 == t291)))) else (some false)))) else (some false)) = some r := H
                have A43 := Aside0.mk A430
                clear A430
                by_cases c44 : (t286 == t287) = true
                · rw [if_pos c44] at H
                  have c44b0 : (t286 == t287) = true := c44
                  (try (have c44b1 : decide (t286 = t287) = true := by simpa using c44))
                  (try (have c44b2 : (t286 == t287) = true := by simpa using c44))
                  clear c44
                  replace H := Option.bind_eq_some_iff.mp H
                  obtain ⟨t288, A450, H⟩ := H
                  replace H : ((fullerref02_Size.f kj14 l0).bind fun t289 => (if t288 = t289 then ((shape_Fits.f kj14 l0 l1).bind fun t290 => ((fullerref02_Fits.f kj14 l0 l1).bind fun t291 => (some (t290 == t291)))) else (some false))) = some r := H
                  have A45 := Aside0.mk A450
                  clear A450
                  replace H := Option.bind_eq_some_iff.mp H
                  obtain ⟨t289, A460, H⟩ := H
                  replace H : (if t288 = t289 then ((shape_Fits.f kj14 l0 l1).bind fun t290 => ((fullerref02_Fits.f kj14 l0 l1).bind fun t291 => (some (t290 == t291)))) else (some false)) = some r := H
                  have A46 := Aside0.mk A460
                  clear A460
                  by_cases c47 : t288 = t289
                  · rw [if_pos c47] at H
                    have c47b0 : (t288 == t289) = true := beq_iff_eq.mpr c47
                    have c47b1 : (t288 != t289) = false := bne_eq_false_iff_eq.mpr c47
                    clear c47
                    replace H := Option.bind_eq_some_iff.mp H
                    obtain ⟨t290, A480, H⟩ := H
                    replace H : ((fullerref02_Fits.f kj14 l0 l1).bind fun t291 => (some (t290 == t291))) = some r := H
                    have A48 := Aside0.mk A480
                    clear A480
                    replace H := Option.bind_eq_some_iff.mp H
                    obtain ⟨t291, A490, H⟩ := H
                    replace H : (some (t290 == t291)) = some r := H
                    have A49 := Aside0.mk A490
                    clear A490
                    obtain rfl := Option.some.inj H
                    go_wp2_with (first | (go_at_call 18; (with_reducible refine (shape_Check.calls kj14 _ _ l0 t286 _ ?side1 ?side2 A42.out).mono ?_); (case side1 => repeat (first | exact (Kd.C_below HR0.out HB.out) | (with_reducible refine Kd.C_alloc ?_ _) | (with_reducible refine Kd.C_drewN ?_ _) | (with_reducible refine Kd.C_drew ?_))); (case side2 => exact HC0.out); rintro e w' ⟨rfl, ⟨nd, rfl⟩⟩) | (go_at_call 19; (with_reducible refine (fullerref02_Check.calls kj14 _ _ l0 t287 _ ?side1 ?side2 A43.out).mono ?_); (case side1 => repeat (first | exact (Kd.C_below HR0.out (by repeat (first | (with_reducible first | exact HB.out | apply below_alloc | apply pw_below_drewN | apply below_drew1) | exact HB.out))) | (with_reducible refine Kd.C_alloc ?_ _) | (with_reducible refine Kd.C_drewN ?_ _) | (with_reducible refine Kd.C_drew ?_))); (case side2 => exact HC0.out); rintro e w' ⟨rfl, ⟨nd, rfl⟩⟩) | (go_at_call 20; (with_reducible refine (shape_Size.calls kj14 _ _ l0 t288 _ ?side1 ?side2 A45.out).mono ?_); (case side1 => repeat (first | exact (Kd.C_below HR0.out (by repeat (first | (with_reducible first | exact HB.out | apply below_alloc | apply pw_below_drewN | apply below_drew1) | exact HB.out))) | (with_reducible refine Kd.C_alloc ?_ _) | (with_reducible refine Kd.C_drewN ?_ _) | (with_reducible refine Kd.C_drew ?_))); (case side2 => exact HC0.out); rintro e w' ⟨rfl, ⟨nd, rfl⟩⟩) | (go_at_call 21; (with_reducible refine (fullerref02_Size.calls kj14 _ _ l0 t289 _ ?side1 ?side2 A46.out).mono ?_); (case side1 => repeat (first | exact (Kd.C_below HR0.out (by repeat (first | (with_reducible first | exact HB.out | apply below_alloc | apply pw_below_drewN | apply below_drew1) | exact HB.out))) | (with_reducible refine Kd.C_alloc ?_ _) | (with_reducible refine Kd.C_drewN ?_ _) | (with_reducible refine Kd.C_drew ?_))); (case side2 => exact HC0.out); rintro e w' ⟨rfl, ⟨nd, rfl⟩⟩) | (go_at_call 22; (with_reducible refine (shape_Fits.calls kj14 _ _ l0 _ _ l1 t290 _ ?side1 ?side2 ?side3 ?side4 A48.out).mono ?_); (case side1 => repeat (first | exact (Kd.C_below HR0.out (by repeat (first | (with_reducible first | exact HB.out | apply below_alloc | apply pw_below_drewN | apply below_drew1) | exact HB.out))) | (with_reducible refine Kd.C_alloc ?_ _) | (with_reducible refine Kd.C_drewN ?_ _) | (with_reducible refine Kd.C_drew ?_))); (case side2 => exact HC0.out); (case side3 => repeat (first | exact (Kd.C_below HR1.out (by repeat (first | (with_reducible first | exact HB.out | apply below_alloc | apply pw_below_drewN | apply below_drew1) | exact HB.out))) | (with_reducible refine Kd.C_alloc ?_ _) | (with_reducible refine Kd.C_drewN ?_ _) | (with_reducible refine Kd.C_drew ?_))); (case side4 => exact HC1.out); rintro e w50 ⟨rfl, hb⟩; have n0_ := Aside0.mk (below_step (by repeat (first | (with_reducible first | exact HB.out | apply below_alloc | apply pw_below_drewN | apply below_drew1) | exact HB.out)) hb); clear HB; have HB := n0_; clear n0_; (try clear hb); (try clear hb2); (try clear hk); (try clear hi)) | (go_at_call 23; (with_reducible refine (fullerref02_Fits.calls kj14 _ _ l0 _ _ l1 t291 _ ?side1 ?side2 ?side3 ?side4 A49.out).mono ?_); (case side1 => repeat (first | exact (Kd.C_below HR0.out HB.out) | (with_reducible refine Kd.C_alloc ?_ _) | (with_reducible refine Kd.C_drewN ?_ _) | (with_reducible refine Kd.C_drew ?_))); (case side2 => exact HC0.out); (case side3 => repeat (first | exact (Kd.C_below HR1.out HB.out) | (with_reducible refine Kd.C_alloc ?_ _) | (with_reducible refine Kd.C_drewN ?_ _) | (with_reducible refine Kd.C_drew ?_))); (case side4 => exact HC1.out); rintro e w51 ⟨rfl, hb⟩; have n0_ := Aside0.mk (below_step (by repeat (first | (with_reducible first | exact HB.out | apply below_alloc | apply pw_below_drewN | apply below_drew1) | exact HB.out)) hb); clear HB; have HB := n0_; clear n0_; (try clear hb); (try clear hb2); (try clear hk); (try clear hi)))
                    go_ret
                    exact ⟨by first | rfl | (simp [errW_none, errW_some] <;> rfl) | (simp [*, errW_none, errW_some] <;> rfl), by repeat (first | (with_reducible first | exact HB.out | apply below_alloc | apply pw_below_drewN | apply below_drew1) | exact HB.out)⟩
                  · rw [if_neg c47] at H
                    have c47b0 : (t288 == t289) = false := beq_eq_false_iff_ne.mpr c47
                    have c47b1 : (t288 != t289) = true := bne_iff_ne.mpr c47
                    obtain rfl := Option.some.inj H
                    go_wp2_with (first | (go_at_call 18; (with_reducible refine (shape_Check.calls kj14 _ _ l0 t286 _ ?side1 ?side2 A42.out).mono ?_); (case side1 => repeat (first | exact (Kd.C_below HR0.out HB.out) | (with_reducible refine Kd.C_alloc ?_ _) | (with_reducible refine Kd.C_drewN ?_ _) | (with_reducible refine Kd.C_drew ?_))); (case side2 => exact HC0.out); rintro e w' ⟨rfl, ⟨nd, rfl⟩⟩) | (go_at_call 19; (with_reducible refine (fullerref02_Check.calls kj14 _ _ l0 t287 _ ?side1 ?side2 A43.out).mono ?_); (case side1 => repeat (first | exact (Kd.C_below HR0.out (by repeat (first | (with_reducible first | exact HB.out | apply below_alloc | apply pw_below_drewN | apply below_drew1) | exact HB.out))) | (with_reducible refine Kd.C_alloc ?_ _) | (with_reducible refine Kd.C_drewN ?_ _) | (with_reducible refine Kd.C_drew ?_))); (case side2 => exact HC0.out); rintro e w' ⟨rfl, ⟨nd, rfl⟩⟩) | (go_at_call 20; (with_reducible refine (shape_Size.calls kj14 _ _ l0 t288 _ ?side1 ?side2 A45.out).mono ?_); (case side1 => repeat (first | exact (Kd.C_below HR0.out (by repeat (first | (with_reducible first | exact HB.out | apply below_alloc | apply pw_below_drewN | apply below_drew1) | exact HB.out))) | (with_reducible refine Kd.C_alloc ?_ _) | (with_reducible refine Kd.C_drewN ?_ _) | (with_reducible refine Kd.C_drew ?_))); (case side2 => exact HC0.out); rintro e w' ⟨rfl, ⟨nd, rfl⟩⟩) | (go_at_call 21; (with_reducible refine (fullerref02_Size.calls kj14 _ _ l0 t289 _ ?side1 ?side2 A46.out).mono ?_); (case side1 => repeat (first | exact (Kd.C_below HR0.out (by repeat (first | (with_reducible first | exact HB.out | apply below_alloc | apply pw_below_drewN | apply below_drew1) | exact HB.out))) | (with_reducible refine Kd.C_alloc ?_ _) | (with_reducible refine Kd.C_drewN ?_ _) | (with_reducible refine Kd.C_drew ?_))); (case side2 => exact HC0.out); rintro e w' ⟨rfl, ⟨nd, rfl⟩⟩))
                    go_ret
                    exact ⟨by first | rfl | (simp [errW_none, errW_some] <;> rfl) | (simp [*, errW_none, errW_some] <;> rfl), by repeat (first | (with_reducible first | exact HB.out | apply below_alloc | apply pw_below_drewN | apply below_drew1) | exact HB.out)⟩
                · rw [if_neg c44] at H
                  have c44b0 : (t286 == t287) = false := by simpa using c44
                  (try (have c44b1 : decide (t286 = t287) = false := by simpa using c44))
                  (try (have c44b2 : (t286 == t287) = false := by simpa using c44))
                  (try (have c44b3 : ¬ (t286 = t287) := by simpa using c44))
                  clear c44
                  obtain rfl := Option.some.inj H
                  go_wp2_with (first | (go_at_call 18; (with_reducible refine (shape_Check.calls kj14 _ _ l0 t286 _ ?side1 ?side2 A42.out).mono ?_); (case side1 => repeat (first | exact (Kd.C_below HR0.out HB.out) | (with_reducible refine Kd.C_alloc ?_ _) | (with_reducible refine Kd.C_drewN ?_ _) | (with_reducible refine Kd.C_drew ?_))); (case side2 => exact HC0.out); rintro e w' ⟨rfl, ⟨nd, rfl⟩⟩) | (go_at_call 19; (with_reducible refine (fullerref02_Check.calls kj14 _ _ l0 t287 _ ?side1 ?side2 A43.out).mono ?_); (case side1 => repeat (first | exact (Kd.C_below HR0.out (by repeat (first | (with_reducible first | exact HB.out | apply below_alloc | apply pw_below_drewN | apply below_drew1) | exact HB.out))) | (with_reducible refine Kd.C_alloc ?_ _) | (with_reducible refine Kd.C_drewN ?_ _) | (with_reducible refine Kd.C_drew ?_))); (case side2 => exact HC0.out); rintro e w' ⟨rfl, ⟨nd, rfl⟩⟩))
                  go_ret
                  exact ⟨by first | rfl | (simp [errW_none, errW_some] <;> rfl) | (simp [*, errW_none, errW_some] <;> rfl), by repeat (first | (with_reducible first | exact HB.out | apply below_alloc | apply pw_below_drewN | apply below_drew1) | exact HB.out)⟩
              · replace c41 := Bool.eq_false_iff.mpr c41
                subst c41
                have H1 : (some false) = some r := by rw [if_neg (show ¬ (false = true) by decide)] at H; exact H
                clear H
                have H := H1
                clear H1
                obtain rfl := Option.some.inj H
                go_wp2
                go_ret
                exact ⟨by first | rfl | (simp [errW_none, errW_some] <;> rfl) | (simp [*, errW_none, errW_some] <;> rfl), by repeat (first | (with_reducible first | exact HB.out | apply below_alloc | apply pw_below_drewN | apply below_drew1) | exact HB.out)⟩
            · replace c40 := Bool.eq_false_iff.mpr c40
              subst c40
              have H1 : (some false) = some r := by rw [if_neg (show ¬ (false = true) by decide)] at H; exact H
              clear H
              have H := H1
              clear H1
              obtain rfl := Option.some.inj H
              go_wp2
              go_ret
              exact ⟨by first | rfl | (simp [errW_none, errW_some] <;> rfl) | (simp [*, errW_none, errW_some] <;> rfl), by repeat (first | (with_reducible first | exact HB.out | apply below_alloc | apply pw_below_drewN | apply below_drew1) | exact HB.out)⟩

/-- THE ONE PURE STATEMENT of fullerlaw02_ShapeTells: yours. -/
def fullerlaw02_ShapeTells.Pure : Prop := ∀ (l0 : List Int) (l1 : List Int) (a2 : Int), l0.length ≤ maxLen → l0.length * 8 ≤ 140737488351232 → (∀ x ∈ l0, (Lit.int .i64 x).wf = true) → l1.length ≤ maxLen → l1.length * 8 ≤ 140737488351232 → (∀ x ∈ l1, (Lit.int .i64 x).wf = true) → (Lit.int .i64 a2).wf = true → ∃ k, fullerlaw02_ShapeTells.f k l0 l1 a2 = some true
theorem fullerlaw02_ShapeTells.walk (P : fullerlaw02_ShapeTells.Pure) (a0 : Option Addr) (len0 cap0 : Nat) (z0 : List Int) (a1 : Option Addr) (len1 cap1 : Nat) (z1 : List Int) (a2 : Int) (w : World) (w0 : (a0 = none ∧ len0 = 0 ∧ cap0 = 0 ∧ z0 = []) ∨ ∃ x, a0 = some x ∧ len0 ≤ cap0 ∧ cap0 ≤ maxLen ∧ z0.length = cap0 ∧ (∀ i, i < z0.length → w.cell? (x.add i) = some (.int .i64 (z0.getD i 0))) ∧ ∀ n ∈ z0, (Lit.int .i64 n).wf = true) (y0 : len0 * 8 ≤ 140737488351232) (w1 : (a1 = none ∧ len1 = 0 ∧ cap1 = 0 ∧ z1 = []) ∨ ∃ x, a1 = some x ∧ len1 ≤ cap1 ∧ cap1 ≤ maxLen ∧ z1.length = cap1 ∧ (∀ i, i < z1.length → w.cell? (x.add i) = some (.int .i64 (z1.getD i 0))) ∧ ∀ n ∈ z1, (Lit.int .i64 n).wf = true) (y1 : len1 * 8 ≤ 140737488351232) (w2 : (Lit.int .i64 a2).wf = true) :
    Calls Try.prog 3 #[.slice a0 len0 cap0, .slice a1 len1 cap1, .int .i64 a2] w fun e w' => e = .returned (.bool true) ∧ Below w.heap.size w w' := by
  obtain ⟨l0, rfl, hr0, hm0, hw0, hc0⟩ := ReadsInt.ofRowC w0
  obtain ⟨l1, rfl, hr1, hm1, hw1, hc1⟩ := ReadsInt.ofRowC w1
  obtain ⟨k, h⟩ := P l0 l1 a2 hm0 y0 hw0 hm1 y1 hw1 w2
  refine (fullerlaw02_ShapeTells.calls k _ _ l0 _ _ l1 a2 true w (Kd.C_of_reads (d := (0 : Int)) (h1 := fun _ => rfl) hr0) hc0 (Kd.C_of_reads (d := (0 : Int)) (h1 := fun _ => rfl) hr1) hc1 h).mono ?_
  rintro e w' ⟨rfl, hd⟩
  exact ⟨rfl, hd⟩

end Go.Proofs.Ytgmmbakfaoallaa.A
