/- Lean functions that answer as the Go functions do, and the proofs that they do; no conditions. Written by this session's own driver: a scratch copy of the kit's print with the session's additions (wip/xprint). -/
import Derived.Test.YtoiaegbhnpddlaaAx0
import Derived.Test.YtoiaegbhnpddlaaAx2
import Derived.Test.YtoiaegbhnpddlaaAx6
import Derived.Test.YtoiaegbhnpddlaaAx8
namespace Go.Proofs.Ytoiaegbhnpddlaa.A
open Go.RowKit Go.Proofs.YtoiaegbhnpddlaaW.PrintWords Go.Proofs.YtoiaegbhnpddlaaW.PrintLast Go.Proofs.YtoiaegbhnpddlaaW.PrintMore
attribute [local go_sem] max2_int min2_int max_two min_two max_three min_three max_four min_four   -- for this text's walks alone
set_option linter.unusedVariables false
set_option linter.unusedSimpArgs false

/-! ### fullerlaw03_TensorIndex: function 8 -/
mutual
def fullerlaw03_TensorIndex.j0 : Nat → List Int → List Int → Bool → Bool → List Int → List Int → Option (Bool)
 | 0, _, _, _, _, _, _ => none
 | k + 1, x1, x2, x7, x29, x590000, x590001 => if x29 = true then (some x7) else ((tensor_Spread.f k x590000 x590001 x1).bind fun bt592 => ((tensor_At.f k bt592.1 bt592.2.1 x2).bind fun bt600 => (if bt592.2.2 = 0 then (fullerlaw03_TensorIndex.j1 k x2 x7 bt592.2.2 bt600.1 bt600.2 (bt600.2 != 0) x590000 x590001) else (fullerlaw03_TensorIndex.j1 k x2 x7 bt592.2.2 bt600.1 bt600.2 true x590000 x590001))))
def fullerlaw03_TensorIndex.j1 : Nat → List Int → Bool → Int → Int → Int → Bool → List Int → List Int → Option (Bool)
 | 0, _, _, _, _, _, _, _, _ => none
 | k + 1, x2, x7, x9, x10, x11, x48, x590000, x590001 => if x48 = true then (if x7 = true then (if x9 = 0 then (some (x11 == 20)) else (some true)) else (some false)) else (if (x2.length : Int) < (x590000.length : Int) then (some false) else ((some (([] : List Int) : List Int)).bind fun y602 => (if 0 ≤ (wrap64 ((x2.length : Int) - (x590000.length : Int))) then (if (wrap64 ((x2.length : Int) - (x590000.length : Int))) ≤ (x2.length : Int) then (if y602.length + (x2.drop ((wrap64 ((x2.length : Int) - (x590000.length : Int))) : Int).toNat).length < 17592186044416 then (fullerlaw03_TensorIndex.l0 k x7 x10 (y602 ++ (x2.drop ((wrap64 ((x2.length : Int) - (x590000.length : Int))) : Int).toNat)) 0 x590000 x590001) else (none)) else (none)) else (none))))
def fullerlaw03_TensorIndex.l0 : Nat → Bool → Int → List Int → Int → List Int → List Int → Option (Bool)
 | 0, _, _, _, _, _, _ => none
 | k + 1, x7, x10, x12, x13, x590000, x590001 => if x13 < (x12.length : Int) then (if 0 ≤ x13 then (if x13 < (x590000.length : Int) then (if (rd x590000 x13) = 1 then (fullerlaw03_TensorIndex.l0 k x7 x10 (x12.set (x13 : Int).toNat 0) (wrap64 (x13 + 1)) x590000 x590001) else (fullerlaw03_TensorIndex.l0 k x7 x10 x12 (wrap64 (x13 + 1)) x590000 x590001)) else (none)) else (none)) else ((tensor_At.f k x590000 x590001 x12).bind fun bt611 => (if x7 = true then (if bt611.2 = 0 then (some (bt611.1 == x10)) else (some false)) else (some false)))
end
def fullerlaw03_TensorIndex.f (k : Nat) (l0_0 : List Int) (l0_1 : List Int) (l1 : List Int) (l2 : List Int) : Option (Bool) := (fullerlaw03_awake.f k).bind fun t590 => ((fullerref03_Few.f l0_0 l0_1).bind fun t591 => (if t591 = true then (if (l1.length : Int) > 100 then (fullerlaw03_TensorIndex.j0 k l1 l2 t590 true l0_0 l0_1) else (fullerlaw03_TensorIndex.j0 k l1 l2 t590 (decide ((l2.length : Int) > 100)) l0_0 l0_1)) else (fullerlaw03_TensorIndex.j0 k l1 l2 t590 true l0_0 l0_1)))
theorem fullerlaw03_TensorIndex.mono_l : ∀ k, (∀ y0 y1 y2 y3 y4 y5, LeO (fullerlaw03_TensorIndex.j0 k y0 y1 y2 y3 y4 y5) (fullerlaw03_TensorIndex.j0 (k + 1) y0 y1 y2 y3 y4 y5)) ∧ (∀ y0 y1 y2 y3 y4 y5 y6 y7, LeO (fullerlaw03_TensorIndex.j1 k y0 y1 y2 y3 y4 y5 y6 y7) (fullerlaw03_TensorIndex.j1 (k + 1) y0 y1 y2 y3 y4 y5 y6 y7)) ∧ (∀ y0 y1 y2 y3 y4 y5, LeO (fullerlaw03_TensorIndex.l0 k y0 y1 y2 y3 y4 y5) (fullerlaw03_TensorIndex.l0 (k + 1) y0 y1 y2 y3 y4 y5))
 | 0 => ⟨fun _ _ _ _ _ _ r h => by simp [fullerlaw03_TensorIndex.j0] at h, fun _ _ _ _ _ _ _ _ r h => by simp [fullerlaw03_TensorIndex.j1] at h, fun _ _ _ _ _ _ r h => by simp [fullerlaw03_TensorIndex.l0] at h⟩
 | k + 1 => by
  obtain ⟨ih0, ih1, ih2⟩ := fullerlaw03_TensorIndex.mono_l k
  refine ⟨?_, ?_, ?_⟩
  ·intro y0 y1 y2 y3 y4 y5
   unfold fullerlaw03_TensorIndex.j0
   repeat' first
   | (with_reducible exact ih0 _ _ _ _ _ _)
   | (with_reducible exact ih1 _ _ _ _ _ _ _ _)
   | (with_reducible exact ih2 _ _ _ _ _ _)
   | (with_reducible exact fullerlaw03_awake.mono _)
   | (with_reducible exact tensor_At.mono _ _ _ _)
   | (with_reducible exact tensor_Spread.mono _ _ _ _)
   | (with_reducible exact LeO.refl _)
   | (with_reducible exact LeO.none _)
   | (with_reducible refine LeO.ite ?_ ?_)
   | (with_reducible refine LeO.bind ?_ (fun _ => ?_))
   | exact ih0 _ _ _ _ _ _
   | exact ih1 _ _ _ _ _ _ _ _
   | exact ih2 _ _ _ _ _ _
   | exact fullerlaw03_awake.mono _
   | exact tensor_At.mono _ _ _ _
   | exact tensor_Spread.mono _ _ _ _
   | exact LeO.none _
   | refine LeO.ite ?_ ?_
   | refine LeO.bind ?_ (fun _ => ?_)
  ·intro y0 y1 y2 y3 y4 y5 y6 y7
   unfold fullerlaw03_TensorIndex.j1
   repeat' first
   | (with_reducible exact ih0 _ _ _ _ _ _)
   | (with_reducible exact ih1 _ _ _ _ _ _ _ _)
   | (with_reducible exact ih2 _ _ _ _ _ _)
   | (with_reducible exact fullerlaw03_awake.mono _)
   | (with_reducible exact tensor_At.mono _ _ _ _)
   | (with_reducible exact tensor_Spread.mono _ _ _ _)
   | (with_reducible exact LeO.refl _)
   | (with_reducible exact LeO.none _)
   | (with_reducible refine LeO.ite ?_ ?_)
   | (with_reducible refine LeO.bind ?_ (fun _ => ?_))
   | exact ih0 _ _ _ _ _ _
   | exact ih1 _ _ _ _ _ _ _ _
   | exact ih2 _ _ _ _ _ _
   | exact fullerlaw03_awake.mono _
   | exact tensor_At.mono _ _ _ _
   | exact tensor_Spread.mono _ _ _ _
   | exact LeO.none _
   | refine LeO.ite ?_ ?_
   | refine LeO.bind ?_ (fun _ => ?_)
  ·intro y0 y1 y2 y3 y4 y5
   unfold fullerlaw03_TensorIndex.l0
   repeat' first
   | (with_reducible exact ih0 _ _ _ _ _ _)
   | (with_reducible exact ih1 _ _ _ _ _ _ _ _)
   | (with_reducible exact ih2 _ _ _ _ _ _)
   | (with_reducible exact fullerlaw03_awake.mono _)
   | (with_reducible exact tensor_At.mono _ _ _ _)
   | (with_reducible exact tensor_Spread.mono _ _ _ _)
   | (with_reducible exact LeO.refl _)
   | (with_reducible exact LeO.none _)
   | (with_reducible refine LeO.ite ?_ ?_)
   | (with_reducible refine LeO.bind ?_ (fun _ => ?_))
   | exact ih0 _ _ _ _ _ _
   | exact ih1 _ _ _ _ _ _ _ _
   | exact ih2 _ _ _ _ _ _
   | exact fullerlaw03_awake.mono _
   | exact tensor_At.mono _ _ _ _
   | exact tensor_Spread.mono _ _ _ _
   | exact LeO.none _
   | refine LeO.ite ?_ ?_
   | refine LeO.bind ?_ (fun _ => ?_)
theorem fullerlaw03_TensorIndex.mono : ∀ a0 a1 a2 a3 k, LeO (fullerlaw03_TensorIndex.f k a0 a1 a2 a3) (fullerlaw03_TensorIndex.f (k + 1) a0 a1 a2 a3) := by
 intro a0 a1 a2 a3 k
 obtain ⟨ih0, ih1, ih2⟩ := fullerlaw03_TensorIndex.mono_l k
 unfold fullerlaw03_TensorIndex.f
 repeat' first
   | (with_reducible exact ih0 _ _ _ _ _ _)
   | (with_reducible exact ih1 _ _ _ _ _ _ _ _)
   | (with_reducible exact ih2 _ _ _ _ _ _)
   | (with_reducible exact fullerlaw03_awake.mono _)
   | (with_reducible exact tensor_At.mono _ _ _ _)
   | (with_reducible exact tensor_Spread.mono _ _ _ _)
   | (with_reducible exact LeO.refl _)
   | (with_reducible exact LeO.none _)
   | (with_reducible refine LeO.ite ?_ ?_)
   | (with_reducible refine LeO.bind ?_ (fun _ => ?_))
   | exact ih0 _ _ _ _ _ _
   | exact ih1 _ _ _ _ _ _ _ _
   | exact ih2 _ _ _ _ _ _
   | exact fullerlaw03_awake.mono _
   | exact tensor_At.mono _ _ _ _
   | exact tensor_Spread.mono _ _ _ _
   | exact LeO.none _
   | refine LeO.ite ?_ ?_
   | refine LeO.bind ?_ (fun _ => ?_)
set_option maxHeartbeats 8000000 in
set_option maxRecDepth 100000 in
theorem fullerlaw03_TensorIndex.calls (k : Nat) (A0_0 : Option Addr) (c0_0 : Nat) (l0_0 : List Int) (A0_1 : Option Addr) (c0_1 : Nat) (l0_1 : List Int) (A1 : Option Addr) (c1 : Nat) (l1 : List Int) (A2 : Option Addr) (c2 : Nat) (l2 : List Int) (r : Bool) (w : World) (hr0_0 : Kd.C (Kd.int .i64) w A0_0 l0_0.length l0_0) (hc0_0 : l0_0.length ≤ c0_0) (hr0_1 : Kd.C (Kd.int .i64) w A0_1 l0_1.length l0_1) (hc0_1 : l0_1.length ≤ c0_1) (hr1 : Kd.C (Kd.int .i64) w A1 l1.length l1) (hc1 : l1.length ≤ c1) (hr2 : Kd.C (Kd.int .i64) w A2 l2.length l2) (hc2 : l2.length ≤ c2) (h : fullerlaw03_TensorIndex.f k l0_0 l0_1 l1 l2 = some r) :
  Calls Try.prog 8 #[.agg #[.slice A0_0 l0_0.length c0_0, .slice A0_1 l0_1.length c0_1], .slice A1 l1.length c1, .slice A2 l2.length c2] w fun e w' => e = .returned (.bool r) ∧ Below w.heap.size w w' := by
 have hu24 := Try.underlying24
 have HR0_0 := Aside0.mk hr0_0
 have HC0_0 := Aside0.mk hc0_0
 clear hr0_0 hc0_0
 have HR0_1 := Aside0.mk hr0_1
 have HC0_1 := Aside0.mk hc0_1
 clear hr0_1 hc0_1
 have HR1 := Aside0.mk hr1
 have HC1 := Aside0.mk hc1
 clear hr1 hc1
 have HR2 := Aside0.mk hr2
 have HC2 := Aside0.mk hc2
 clear hr2 hc2
 have HB := Aside0.mk (Below.refl w.heap.size w)
 have H : ((fullerlaw03_awake.f k).bind fun t590 => ((fullerref03_Few.f l0_0 l0_1).bind fun t591 => (if t591 = true then (if (l1.length : Int) > 100 then (fullerlaw03_TensorIndex.j0 k l1 l2 t590 true l0_0 l0_1) else (fullerlaw03_TensorIndex.j0 k l1 l2 t590 (decide ((l2.length : Int) > 100)) l0_0 l0_1)) else (fullerlaw03_TensorIndex.j0 k l1 l2 t590 true l0_0 l0_1)))) = some r := h
 clear h
 replace H := Option.bind_eq_some_iff.mp H
 obtain ⟨t590, A40, H⟩ := H
 replace H : ((fullerref03_Few.f l0_0 l0_1).bind fun t591 => (if t591 = true then (if (l1.length : Int) > 100 then (fullerlaw03_TensorIndex.j0 k l1 l2 t590 true l0_0 l0_1) else (fullerlaw03_TensorIndex.j0 k l1 l2 t590 (decide ((l2.length : Int) > 100)) l0_0 l0_1)) else (fullerlaw03_TensorIndex.j0 k l1 l2 t590 true l0_0 l0_1))) = some r := H
 have A4 := Aside0.mk A40
 clear A40
 have HC5 := Aside0.mk H
 clear H
 go_enter Try.func8, Try.ntmps8
 go_upto_region 2 with (first | ((with_reducible refine gate_dst (N := 3) rfl ?_); (try (refine gate_guard (by rfl) ?_; dsimp only)); refine box_event ?hg (N := 3) ?hd (cs := #[.slice A0_0 l0_0.length c0_0, .slice A0_1 l0_1.length c0_1]) (t := 24) ?hr ?_; (case hd => rfl); (case hg => rfl); (case hr => first | (go_simp; done) | (go_simp; rfl)); intro gb589 hg w6 hbox hb; have n0_ := Aside0.mk (below_step (bq0_ HB.out) hb); have n1_ := Aside0.mk (hbox); have n2_ := Aside0.mk ((by rw [hg]; exact (below_size (bq0_ HB.out)) : w.heap.size ≤ gb589)); have n3_ := Aside0.mk ((by rw [hg]; exact (below_size (bq0_ HB.out)) : w.heap.size ≤ gb589)); clear HB; have HB := n0_; have BK589 := n1_; have GW589 := n2_; have GE589 := n3_; clear n0_ n1_ n2_ n3_; clear hb hbox hg) | ((with_reducible refine gate_callee (f := 9) rfl ?_); refine goesL_ (some 16) rfl rfl Try.func9 (by kernel_rfl) rfl #[] rfl (by (try simp only [List.map_toArray, List.map_cons, List.map_nil]); first | done | rfl | (simp only [List.length_drop, List.length_take]; rfl)) ?_; (with_reducible refine (fullerlaw03_awake.calls k  t590 _ A4.out).mono ?_); rintro e w7 ⟨rfl, hb⟩; refine ⟨_, rfl, ?_⟩; have n0_ := Aside0.mk (blk_below (g := gb589) (o := .cells #[.slice A0_0 l0_0.length c0_0, .slice A0_1 l0_1.length c0_1] 24 (0, 0)) (mvK_ BK589.out) hb); have n1_ := Aside0.mk (below_step (bq1_ HB.out GE589.out) hb); clear BK589; clear HB; have BK589 := n0_; have HB := n1_; clear n0_ n1_; (try clear hb)))
 (try simp only [Act.put, sA_, sB_, sC_])
 go_cut [29] (fun v29 wc => ∃ (kq : Nat) (x29_4 : Bool), v29 = .bool x29_4 ∧ Aside0 (fullerlaw03_TensorIndex.j0 kq l1 l2 t590 x29_4 l0_0 l0_1 = some r) ∧ Aside0 (kq ≤ k) ∧ Aside0 (wc.heap[gb589]? = some (.cells #[(.slice A0_0 l0_0.length c0_0), (.slice A0_1 l0_1.length c0_1)] 24 (0, 0))) ∧ Aside0 (Below w.heap.size w wc))
 case first =>
  have H := HC5.out
  clear HC5
  replace H := Option.bind_eq_some_iff.mp H
  obtain ⟨t591, A80, H⟩ := H
  replace H : (if t591 = true then (if (l1.length : Int) > 100 then (fullerlaw03_TensorIndex.j0 k l1 l2 t590 true l0_0 l0_1) else (fullerlaw03_TensorIndex.j0 k l1 l2 t590 (decide ((l2.length : Int) > 100)) l0_0 l0_1)) else (fullerlaw03_TensorIndex.j0 k l1 l2 t590 true l0_0 l0_1)) = some r := H
  have A8 := Aside0.mk A80
  clear A80
  by_cases c9 : t591 = true
  ·subst c9
   have H1 : (if (l1.length : Int) > 100 then (fullerlaw03_TensorIndex.j0 k l1 l2 t590 true l0_0 l0_1) else (fullerlaw03_TensorIndex.j0 k l1 l2 t590 (decide ((l2.length : Int) > 100)) l0_0 l0_1)) = some r := by rw [if_pos rfl] at H; exact H
   clear H
   have H := H1
   clear H1
   by_cases c10 : (l1.length : Int) > 100
   ·rw [if_pos c10] at H
    have c10b0 : decide (100 < (l1.length : Int)) = true := decide_eq_true c10
    have c10b1 : decide (100 < l1.length) = true := decide_eq_true (by omega)
    clear c10
    (first | rw [c10b0] | (simp only [i64_w, i32_w]; rw [c10b0]) | skip)
    have H' := Aside0.mk H
    clear H
    have hcz11_0 : w7.cell? ⟨gb589, 0, none⟩ = some (.slice A0_0 l0_0.length c0_0) := (blk_cell BK589.out 0).trans rfl
    have hcz11_1 : w7.cell? ⟨gb589, 1, none⟩ = some (.slice A0_1 l0_1.length c0_1) := (blk_cell BK589.out 1).trans rfl
    have hfz11_0 := blk_frozen BK589.out 0
    have hfz11_1 := blk_frozen BK589.out 1
    go_wp2_with (first | ((with_reducible refine gate_callee (f := 10) rfl ?_); refine goesL_ (some 18) rfl rfl Try.func10 (by kernel_rfl) rfl #[.agg #[.slice A0_0 l0_0.length c0_0, .slice A0_1 l0_1.length c0_1]] rfl (by (try simp only [List.map_toArray, List.map_cons, List.map_nil]); first | done | rfl | (simp only [List.length_drop, List.length_take]; rfl)) ?_; (with_reducible refine (fullerref03_Few.calls _ _ l0_0 _ _ l0_1 true _ ?side1 ?side2 ?side3 ?side4 A8.out).mono ?_); (case side1 => exact mvC_ ((Kd.C_below HR0_0.out HB.out))); (case side2 => exact HC0_0.out); (case side3 => exact mvC_ ((Kd.C_below HR0_1.out HB.out))); (case side4 => exact HC0_1.out); rintro e w12 ⟨rfl, hb⟩; refine ⟨_, rfl, ?_⟩; have n0_ := Aside0.mk (blk_below (g := gb589) (o := .cells #[.slice A0_0 l0_0.length c0_0, .slice A0_1 l0_1.length c0_1] 24 (0, 0)) (mvK_ BK589.out) hb); have n1_ := Aside0.mk (below_step (bq1_ HB.out GE589.out) hb); clear BK589; clear HB; have BK589 := n0_; have HB := n1_; clear n0_ n1_; (try clear hb)))
    go_meet
    case rel => exact ⟨_, (true), (by first | rfl | (simp; done) | (simp [*]; done)), H', ⟨by first | omega | exact Nat.le_refl _⟩, ⟨by (with_reducible repeat (first | refine blk_drewN ?_ _ | refine blk_drew ?_ | refine blk_alloc ?_ _)); exact BK589.out⟩, ⟨by repeat (first | (with_reducible first | exact HB.out | apply below_alloc | apply pw_below_drewN | apply below_drew1 | refine below_set ?_ GE589.out) | exact HB.out)⟩⟩
   ·rw [if_neg c10] at H
    have c10b0 : decide (100 < (l1.length : Int)) = false := decide_eq_false c10
    have c10b1 : decide (100 < l1.length) = false := decide_eq_false (by omega)
    clear c10
    (first | rw [c10b0] | (simp only [i64_w, i32_w]; rw [c10b0]) | skip)
    have H' := Aside0.mk H
    clear H
    have hcz13_0 : w7.cell? ⟨gb589, 0, none⟩ = some (.slice A0_0 l0_0.length c0_0) := (blk_cell BK589.out 0).trans rfl
    have hcz13_1 : w7.cell? ⟨gb589, 1, none⟩ = some (.slice A0_1 l0_1.length c0_1) := (blk_cell BK589.out 1).trans rfl
    have hfz13_0 := blk_frozen BK589.out 0
    have hfz13_1 := blk_frozen BK589.out 1
    go_wp2_with (first | ((with_reducible refine gate_callee (f := 10) rfl ?_); refine goesL_ (some 18) rfl rfl Try.func10 (by kernel_rfl) rfl #[.agg #[.slice A0_0 l0_0.length c0_0, .slice A0_1 l0_1.length c0_1]] rfl (by (try simp only [List.map_toArray, List.map_cons, List.map_nil]); first | done | rfl | (simp only [List.length_drop, List.length_take]; rfl)) ?_; (with_reducible refine (fullerref03_Few.calls _ _ l0_0 _ _ l0_1 true _ ?side1 ?side2 ?side3 ?side4 A8.out).mono ?_); (case side1 => exact mvC_ ((Kd.C_below HR0_0.out HB.out))); (case side2 => exact HC0_0.out); (case side3 => exact mvC_ ((Kd.C_below HR0_1.out HB.out))); (case side4 => exact HC0_1.out); rintro e w14 ⟨rfl, hb⟩; refine ⟨_, rfl, ?_⟩; have n0_ := Aside0.mk (blk_below (g := gb589) (o := .cells #[.slice A0_0 l0_0.length c0_0, .slice A0_1 l0_1.length c0_1] 24 (0, 0)) (mvK_ BK589.out) hb); have n1_ := Aside0.mk (below_step (bq1_ HB.out GE589.out) hb); clear BK589; clear HB; have BK589 := n0_; have HB := n1_; clear n0_ n1_; (try clear hb)))
    go_meet
    case rel => exact ⟨_, (decide ((l2.length : Int) > 100)), (by first | rfl | (simp; done) | (simp [*]; done)), H', ⟨by first | omega | exact Nat.le_refl _⟩, ⟨by (with_reducible repeat (first | refine blk_drewN ?_ _ | refine blk_drew ?_ | refine blk_alloc ?_ _)); exact BK589.out⟩, ⟨by repeat (first | (with_reducible first | exact HB.out | apply below_alloc | apply pw_below_drewN | apply below_drew1 | refine below_set ?_ GE589.out) | exact HB.out)⟩⟩
  ·replace c9 := Bool.eq_false_iff.mpr c9
   subst c9
   have H1 : (fullerlaw03_TensorIndex.j0 k l1 l2 t590 true l0_0 l0_1) = some r := by rw [if_neg (show ¬ (false = true) by decide)] at H; exact H
   clear H
   have H := H1
   clear H1
   have H' := Aside0.mk H
   clear H
   have hcz15_0 : w7.cell? ⟨gb589, 0, none⟩ = some (.slice A0_0 l0_0.length c0_0) := (blk_cell BK589.out 0).trans rfl
   have hcz15_1 : w7.cell? ⟨gb589, 1, none⟩ = some (.slice A0_1 l0_1.length c0_1) := (blk_cell BK589.out 1).trans rfl
   have hfz15_0 := blk_frozen BK589.out 0
   have hfz15_1 := blk_frozen BK589.out 1
   go_wp2_with (first | ((with_reducible refine gate_callee (f := 10) rfl ?_); refine goesL_ (some 18) rfl rfl Try.func10 (by kernel_rfl) rfl #[.agg #[.slice A0_0 l0_0.length c0_0, .slice A0_1 l0_1.length c0_1]] rfl (by (try simp only [List.map_toArray, List.map_cons, List.map_nil]); first | done | rfl | (simp only [List.length_drop, List.length_take]; rfl)) ?_; (with_reducible refine (fullerref03_Few.calls _ _ l0_0 _ _ l0_1 false _ ?side1 ?side2 ?side3 ?side4 A8.out).mono ?_); (case side1 => exact mvC_ ((Kd.C_below HR0_0.out HB.out))); (case side2 => exact HC0_0.out); (case side3 => exact mvC_ ((Kd.C_below HR0_1.out HB.out))); (case side4 => exact HC0_1.out); rintro e w16 ⟨rfl, hb⟩; refine ⟨_, rfl, ?_⟩; have n0_ := Aside0.mk (blk_below (g := gb589) (o := .cells #[.slice A0_0 l0_0.length c0_0, .slice A0_1 l0_1.length c0_1] 24 (0, 0)) (mvK_ BK589.out) hb); have n1_ := Aside0.mk (below_step (bq1_ HB.out GE589.out) hb); clear BK589; clear HB; have BK589 := n0_; have HB := n1_; clear n0_ n1_; (try clear hb)))
   go_meet
   case rel => exact ⟨_, (true), (by first | rfl | (simp; done) | (simp [*]; done)), H', ⟨by first | omega | exact Nat.le_refl _⟩, ⟨by (with_reducible repeat (first | refine blk_drewN ?_ _ | refine blk_drew ?_ | refine blk_alloc ?_ _)); exact BK589.out⟩, ⟨by repeat (first | (with_reducible first | exact HB.out | apply below_alloc | apply pw_below_drewN | apply below_drew1 | refine below_set ?_ GE589.out) | exact HB.out)⟩⟩
 case rest =>
  clear HC5
  try clear c1
  try clear c2
  try clear p2
  try clear c8
  try clear c9
  try clear c10
  try clear c10b0
  try clear c10b1
  try clear hcz11_0
  try clear hcz11_1
  try clear hcz13_0
  try clear hcz13_1
  try clear hcz15_0
  try clear hcz15_1
  try clear hfz11_0
  try clear hfz11_1
  try clear hfz13_0
  try clear hfz13_1
  try clear hfz15_0
  try clear hfz15_1
  obtain ⟨kq, x29_4, rfl, HA, HJ4, BK589, HB⟩ := hcut
  cases kq with
  | zero => exact absurd HA.out (by simp [fullerlaw03_TensorIndex.j0])
  | succ kj4 =>
   have H := HA.out
   clear HA
   simp only [fullerlaw03_TensorIndex.j0] at H
   by_cases c17 : x29_4 = true
   ·subst c17
    have H1 : (some t590) = some r := by rw [if_pos rfl] at H; exact H
    clear H
    have H := H1
    clear H1
    obtain rfl := Option.some.inj H
    go_wp2
    go_ret
    exact ⟨by first | rfl | (simp [errW_none, errW_some] <;> rfl) | (simp [*, errW_none, errW_some] <;> rfl), by repeat (first | (with_reducible first | exact HB.out | apply below_alloc | apply pw_below_drewN | apply below_drew1 | refine below_set ?_ GE589.out) | exact HB.out)⟩
   ·replace c17 := Bool.eq_false_iff.mpr c17
    subst c17
    have H1 : ((tensor_Spread.f kj4 l0_0 l0_1 l1).bind fun bt592 => ((tensor_At.f kj4 bt592.1 bt592.2.1 l2).bind fun bt600 => (if bt592.2.2 = 0 then (fullerlaw03_TensorIndex.j1 kj4 l2 t590 bt592.2.2 bt600.1 bt600.2 (bt600.2 != 0) l0_0 l0_1) else (fullerlaw03_TensorIndex.j1 kj4 l2 t590 bt592.2.2 bt600.1 bt600.2 true l0_0 l0_1)))) = some r := by rw [if_neg (show ¬ (false = true) by decide)] at H; exact H
    clear H
    have H := H1
    clear H1
    replace H := Option.bind_eq_some_iff.mp H
    obtain ⟨⟨t592, t595, t598⟩, A180, H⟩ := H
    replace H : ((tensor_At.f kj4 t592 t595 l2).bind fun bt600 => (if t598 = 0 then (fullerlaw03_TensorIndex.j1 kj4 l2 t590 t598 bt600.1 bt600.2 (bt600.2 != 0) l0_0 l0_1) else (fullerlaw03_TensorIndex.j1 kj4 l2 t590 t598 bt600.1 bt600.2 true l0_0 l0_1))) = some r := H
    have A18 := Aside0.mk A180
    clear A180
    replace H := Option.bind_eq_some_iff.mp H
    obtain ⟨⟨t600, t601⟩, A190, H⟩ := H
    replace H : (if t598 = 0 then (fullerlaw03_TensorIndex.j1 kj4 l2 t590 t598 t600 t601 (t601 != 0) l0_0 l0_1) else (fullerlaw03_TensorIndex.j1 kj4 l2 t590 t598 t600 t601 true l0_0 l0_1)) = some r := H
    have A19 := Aside0.mk A190
    clear A190
    have HC20 := Aside0.mk H
    clear H
    have hcz21_0 : wc.cell? ⟨gb589, 0, none⟩ = some (.slice A0_0 l0_0.length c0_0) := (blk_cell BK589.out 0).trans rfl
    have hcz21_1 : wc.cell? ⟨gb589, 1, none⟩ = some (.slice A0_1 l0_1.length c0_1) := (blk_cell BK589.out 1).trans rfl
    have hfz21_0 := blk_frozen BK589.out 0
    have hfz21_1 := blk_frozen BK589.out 1
    go_upto_region 6 with (first | ((with_reducible refine gate_callee (f := 16) rfl ?_); refine goesL_ (some 34) rfl rfl Try.func16 (by kernel_rfl) rfl #[.agg #[.slice A0_0 l0_0.length c0_0, .slice A0_1 l0_1.length c0_1], .slice A1 l1.length c1] rfl (by (try simp only [List.map_toArray, List.map_cons, List.map_nil]); first | done | rfl | (simp only [List.length_drop, List.length_take]; rfl)) ?_; (with_reducible refine (tensor_Spread.calls kj4 _ _ l0_0 _ _ l0_1 _ _ l1 t592 t595 t598 _ ?side1 ?side2 ?side3 ?side4 ?side5 ?side6 A18.out).mono ?_); (case side1 => exact mvC_ ((Kd.C_below HR0_0.out HB.out))); (case side2 => exact HC0_0.out); (case side3 => exact mvC_ ((Kd.C_below HR0_1.out HB.out))); (case side4 => exact HC0_1.out); (case side5 => exact mvC_ ((Kd.C_below HR1.out HB.out))); (case side6 => exact HC1.out); rintro e w22 ⟨v593, v596, rfl, ho0, ho1, hb⟩; refine ⟨_, rfl, ?_⟩; have n0_ := Aside0.mk (Kd.R_lower ho0 (below_size (bq1_ HB.out GE589.out))); have n1_ := Aside0.mk (Kd.R_lower ho1 (below_size (bq1_ HB.out GE589.out))); have n2_ := Aside0.mk (blk_below (g := gb589) (o := .cells #[.slice A0_0 l0_0.length c0_0, .slice A0_1 l0_1.length c0_1] 24 (0, 0)) (mvK_ BK589.out) hb); have n3_ := Aside0.mk (below_step (bq1_ HB.out GE589.out) hb); clear BK589; clear HB; have HO594 := n0_; have HO597 := n1_; have BK589 := n2_; have HB := n3_; clear n0_ n1_ n2_ n3_; (try clear hb); (try clear ho0); (try clear ho1)) | ((with_reducible refine gate_dst (N := 8) rfl ?_); (try (refine gate_guard (by rfl) ?_; dsimp only)); refine box_event ?hg (N := 8) ?hd (cs := #[.slice none 0 0, .slice none 0 0]) (t := 24) ?hr ?_; (case hd => rfl); (case hg => rfl); (case hr => first | (go_simp; done) | (go_simp; rfl)); intro gb599 hg w23 hbox hb; have n0_ := Aside0.mk (Kd.R_below (mvR_ HO594.out) hb); have n1_ := Aside0.mk (Kd.R_below (mvR_ HO597.out) hb); have n2_ := Aside0.mk (blk_below (g := gb589) (o := .cells #[.slice A0_0 l0_0.length c0_0, .slice A0_1 l0_1.length c0_1] 24 (0, 0)) (mvK_ BK589.out) hb); have n3_ := Aside0.mk (below_step (bq1_ HB.out GE589.out) hb); have n4_ := Aside0.mk (hbox); have n5_ := Aside0.mk ((by rw [hg]; exact (below_size (bq1_ HB.out GE589.out)) : w.heap.size ≤ gb599)); have n6_ := Aside0.mk ((by rw [hg]; exact (below_size (bq1_ HB.out GE589.out)) : w.heap.size ≤ gb599)); have n7_ := Aside0.mk ((by rw [hg]; exact Nat.ne_of_lt (blk_lt (g := gb589) (o := .cells #[.slice A0_0 l0_0.length c0_0, .slice A0_1 l0_1.length c0_1] 24 (0, 0)) (mvK_ BK589.out)) : gb589 ≠ gb599)); have n8_ := Aside0.mk ((by rw [hg]; exact Nat.ne_of_gt (blk_lt (g := gb589) (o := .cells #[.slice A0_0 l0_0.length c0_0, .slice A0_1 l0_1.length c0_1] 24 (0, 0)) (mvK_ BK589.out)) : gb599 ≠ gb589)); clear HO594; clear HO597; clear BK589; clear HB; have HO594 := n0_; have HO597 := n1_; have BK589 := n2_; have HB := n3_; have BK599 := n4_; have GW599 := n5_; have GE599 := n6_; have NB589_599 := n7_; have NB599_589 := n8_; clear n0_ n1_ n2_ n3_ n4_ n5_ n6_ n7_ n8_; clear hb hbox hg; obtain ⟨Ao24, co24, eo24⟩ := Kd.R_slice HO594.out; subst eo24; have hnb25 := NB599_589.out; have hnc25 := NB589_599.out; have hcz26_0 : w23.cell? ⟨gb599, 0, none⟩ = some (.slice none 0 0) := (blk_cell BK599.out 0).trans rfl; have hcz26_1 : w23.cell? ⟨gb599, 1, none⟩ = some (.slice none 0 0) := (blk_cell BK599.out 1).trans rfl; have hfz26_0 := blk_frozen BK599.out 0; have hfz26_1 := blk_frozen BK599.out 1; obtain ⟨Ao27, co27, eo27⟩ := Kd.R_slice HO597.out; subst eo27) | ((with_reducible refine gate_callee (f := 20) rfl ?_); refine goesL_ (some 40) rfl rfl Try.func20 (by kernel_rfl) rfl #[.agg #[.slice Ao24 t592.length co24, .slice Ao27 t595.length co27], .slice A2 l2.length c2] rfl (by (try simp only [List.map_toArray, List.map_cons, List.map_nil]); first | done | rfl | (simp only [List.length_drop, List.length_take]; rfl)) ?_; (with_reducible refine (tensor_At.calls kj4 _ _ t592 _ _ t595 _ _ l2 t600 t601 _ ?side1 ?side2 ?side3 ?side4 ?side5 ?side6 A19.out).mono ?_); (case side1 => refine (Kd.R_reads' (e := 3) (base := w.heap.size) (ok := fun k_ => some k_ ≠ (.slice Ao27 t595.length co27 : Value).ownBlock) (n := t592.length) (c := co24) ?_).2.2; exact (by (with_reducible repeat (first | apply Kd.R_alloc | apply Kd.R_drewN | apply Kd.R_drew)); exact (Kd.R_mono (Kd.R_far (p := ⟨gb599, 1, none⟩) (Kd.R_far (p := ⟨gb599, 0, none⟩) (Kd.R_types HO594.out BK599.out (by decide)) (fun _ hk => hk.2) (.slice Ao24 t592.length co24)) (fun _ hk => hk.2) (.slice Ao27 t595.length co27)) (fun _ h_ => h_.1)))); (case side2 => exact (Kd.R_reads' HO594.out).2.1); (case side3 => refine (Kd.R_reads' (e := 3) (base := w.heap.size) (ok := fun k_ => some k_ ≠ (.slice Ao24 t592.length co24 : Value).ownBlock) (n := t595.length) (c := co27) ?_).2.2; exact (by (with_reducible repeat (first | apply Kd.R_alloc | apply Kd.R_drewN | apply Kd.R_drew)); exact (Kd.R_mono (Kd.R_far (p := ⟨gb599, 1, none⟩) (Kd.R_far (p := ⟨gb599, 0, none⟩) (Kd.R_types HO597.out BK599.out (by decide)) (fun _ hk => hk.2) (.slice Ao24 t592.length co24)) (fun _ hk => hk.2) (.slice Ao27 t595.length co27)) (fun _ h_ => h_.1)))); (case side4 => exact (Kd.R_reads' HO597.out).2.1); (case side5 => exact Kd.C_below HR2.out (bq2_ HB.out GE589.out GE599.out)); (case side6 => exact HC2.out); rintro e w28 ⟨rfl, hb⟩; refine ⟨_, rfl, ?_⟩; have n0_ := Aside0.mk (Kd.R_below (by (with_reducible repeat (first | apply Kd.R_alloc | apply Kd.R_drewN | apply Kd.R_drew)); exact (Kd.R_mono (Kd.R_far (p := ⟨gb599, 1, none⟩) (Kd.R_far (p := ⟨gb599, 0, none⟩) (Kd.R_types HO594.out BK599.out (by decide)) (fun _ hk => hk.2) (.slice Ao24 t592.length co24)) (fun _ hk => hk.2) (.slice Ao27 t595.length co27)) (fun _ h_ => h_.1))) hb); have n1_ := Aside0.mk (Kd.R_below (by (with_reducible repeat (first | apply Kd.R_alloc | apply Kd.R_drewN | apply Kd.R_drew)); exact (Kd.R_mono (Kd.R_far (p := ⟨gb599, 1, none⟩) (Kd.R_far (p := ⟨gb599, 0, none⟩) (Kd.R_types HO597.out BK599.out (by decide)) (fun _ hk => hk.2) (.slice Ao24 t592.length co24)) (fun _ hk => hk.2) (.slice Ao27 t595.length co27)) (fun _ h_ => h_.1))) hb); have n2_ := Aside0.mk (blk_below (g := gb589) (o := .cells #[.slice A0_0 l0_0.length c0_0, .slice A0_1 l0_1.length c0_1] 24 (0, 0)) (by (with_reducible repeat (first | refine blk_drewN ?_ _ | refine blk_drew ?_ | refine blk_alloc ?_ _)); refine blk_far ?_ NB589_599.out _; (with_reducible repeat (first | refine blk_drewN ?_ _ | refine blk_drew ?_ | refine blk_alloc ?_ _)); refine blk_far ?_ NB589_599.out _; (with_reducible repeat (first | refine blk_drewN ?_ _ | refine blk_drew ?_ | refine blk_alloc ?_ _)); exact BK589.out) hb); have n3_ := Aside0.mk (blk_below (g := gb599) (o := .cells #[.slice Ao24 t592.length co24, .slice Ao27 t595.length co27] 24 (0, 0)) (by (with_reducible repeat (first | refine blk_drewN ?_ _ | refine blk_drew ?_ | refine blk_alloc ?_ _)); refine blk_put (cs := #[.slice Ao24 t592.length co24, .slice none 0 0]) ?_ 1 _ rfl; (with_reducible repeat (first | refine blk_drewN ?_ _ | refine blk_drew ?_ | refine blk_alloc ?_ _)); refine blk_put (cs := #[.slice none 0 0, .slice none 0 0]) ?_ 0 _ rfl; (with_reducible repeat (first | refine blk_drewN ?_ _ | refine blk_drew ?_ | refine blk_alloc ?_ _)); exact BK599.out) hb); have n4_ := Aside0.mk (below_step (bq2_ HB.out GE589.out GE599.out) hb); clear HO594; clear HO597; clear BK589; clear BK599; clear HB; have HO594 := n0_; have HO597 := n1_; have BK589 := n2_; have BK599 := n3_; have HB := n4_; clear n0_ n1_ n2_ n3_ n4_; (try clear hb)))
    (try simp only [Act.put, sA_, sB_, sC_])
    go_cut [48] (fun v48 wc => ∃ (kq : Nat) (x48_19 : Bool), v48 = .bool x48_19 ∧ Aside0 (fullerlaw03_TensorIndex.j1 kq l2 t590 t598 t600 t601 x48_19 l0_0 l0_1 = some r) ∧ Aside0 (kq ≤ kj4) ∧ Aside0 (Kd.R (Kd.int .i64) 3 wc w.heap.size (fun k_ => some k_ ≠ ((.slice Ao27 t595.length co27) : Value).ownBlock) (.slice Ao24 t592.length co24) t592) ∧ Aside0 (Kd.R (Kd.int .i64) 3 wc w.heap.size (fun k_ => some k_ ≠ ((.slice Ao24 t592.length co24) : Value).ownBlock) (.slice Ao27 t595.length co27) t595) ∧ Aside0 (wc.heap[gb589]? = some (.cells #[(.slice A0_0 l0_0.length c0_0), (.slice A0_1 l0_1.length c0_1)] 24 (0, 0))) ∧ Aside0 (wc.heap[gb599]? = some (.cells #[(.slice Ao24 t592.length co24), (.slice Ao27 t595.length co27)] 24 (0, 0))) ∧ Aside0 (Below w.heap.size w wc))
    case first =>
     have H := HC20.out
     clear HC20
     by_cases c29 : t598 = 0
     ·rw [if_pos c29] at H
      have c29b0 : (t598 == 0) = true := beq_iff_eq.mpr c29
      have c29b1 : (t598 != 0) = false := bne_eq_false_iff_eq.mpr c29
      clear c29
      (first | rw [c29b0] | (simp only [i64_w, i32_w]; rw [c29b0]) | skip)
      have H' := Aside0.mk H
      clear H
      go_wp2
      go_meet
      case rel => exact ⟨_, ((t601 != 0)), (by first | rfl | (simp; done) | (simp [*]; done)), H', ⟨by have := HJ4.out; first | omega | exact Nat.le_refl _⟩, ⟨by (with_reducible repeat (first | apply Kd.R_alloc | apply Kd.R_drewN | apply Kd.R_drew)); exact HO594.out⟩, ⟨by (with_reducible repeat (first | apply Kd.R_alloc | apply Kd.R_drewN | apply Kd.R_drew)); exact HO597.out⟩, ⟨by (with_reducible repeat (first | refine blk_drewN ?_ _ | refine blk_drew ?_ | refine blk_alloc ?_ _)); exact BK589.out⟩, ⟨by (with_reducible repeat (first | refine blk_drewN ?_ _ | refine blk_drew ?_ | refine blk_alloc ?_ _)); exact BK599.out⟩, ⟨by repeat (first | (with_reducible first | exact HB.out | apply below_alloc | apply pw_below_drewN | apply below_drew1 | refine below_set ?_ GE589.out | refine below_set ?_ GE599.out) | exact HB.out)⟩⟩
     ·rw [if_neg c29] at H
      have c29b0 : (t598 == 0) = false := beq_eq_false_iff_ne.mpr c29
      have c29b1 : (t598 != 0) = true := bne_iff_ne.mpr c29
      (first | rw [c29b0] | (simp only [i64_w, i32_w]; rw [c29b0]) | skip)
      have H' := Aside0.mk H
      clear H
      go_wp2
      go_meet
      case rel => exact ⟨_, (true), (by first | rfl | (simp; done) | (simp [*]; done)), H', ⟨by have := HJ4.out; first | omega | exact Nat.le_refl _⟩, ⟨by (with_reducible repeat (first | apply Kd.R_alloc | apply Kd.R_drewN | apply Kd.R_drew)); exact HO594.out⟩, ⟨by (with_reducible repeat (first | apply Kd.R_alloc | apply Kd.R_drewN | apply Kd.R_drew)); exact HO597.out⟩, ⟨by (with_reducible repeat (first | refine blk_drewN ?_ _ | refine blk_drew ?_ | refine blk_alloc ?_ _)); exact BK589.out⟩, ⟨by (with_reducible repeat (first | refine blk_drewN ?_ _ | refine blk_drew ?_ | refine blk_alloc ?_ _)); exact BK599.out⟩, ⟨by repeat (first | (with_reducible first | exact HB.out | apply below_alloc | apply pw_below_drewN | apply below_drew1 | refine below_set ?_ GE589.out | refine below_set ?_ GE599.out) | exact HB.out)⟩⟩
    case rest =>
     clear HC20
     try clear c1
     try clear c2
     try clear p2
     try clear c8
     try clear c9
     try clear c10
     try clear c10b0
     try clear c10b1
     try clear c16
     try clear c17
     try clear c20
     try clear c25
     try clear c29
     try clear c29b0
     try clear c29b1
     try clear hcz11_0
     try clear hcz11_1
     try clear hcz13_0
     try clear hcz13_1
     try clear hcz15_0
     try clear hcz15_1
     try clear hcz21_0
     try clear hcz21_1
     try clear hcz26_0
     try clear hcz26_1
     try clear hfz11_0
     try clear hfz11_1
     try clear hfz13_0
     try clear hfz13_1
     try clear hfz15_0
     try clear hfz15_1
     try clear hfz21_0
     try clear hfz21_1
     try clear hfz26_0
     try clear hfz26_1
     try clear p2
     obtain ⟨kq, x48_19, rfl, HA, HJ19, HO_600000, HO_600001, BK589, BK599, HB⟩ := hcut
     cases kq with
     | zero => exact absurd HA.out (by simp [fullerlaw03_TensorIndex.j1])
     | succ kj19 =>
      have H := HA.out
      clear HA
      simp only [fullerlaw03_TensorIndex.j1] at H
      by_cases c30 : x48_19 = true
      ·subst c30
       have H1 : (if t590 = true then (if t598 = 0 then (some (t601 == 20)) else (some true)) else (some false)) = some r := by rw [if_pos rfl] at H; exact H
       clear H
       have H := H1
       clear H1
       by_cases c31 : t590 = true
       ·subst c31
        have H1 : (if t598 = 0 then (some (t601 == 20)) else (some true)) = some r := by rw [if_pos rfl] at H; exact H
        clear H
        have H := H1
        clear H1
        by_cases c32 : t598 = 0
        ·rw [if_pos c32] at H
         have c32b0 : (t598 == 0) = true := beq_iff_eq.mpr c32
         have c32b1 : (t598 != 0) = false := bne_eq_false_iff_eq.mpr c32
         clear c32
         obtain rfl := Option.some.inj H
         go_wp2
         go_ret
         exact ⟨by first | rfl | (simp [errW_none, errW_some] <;> rfl) | (simp [*, errW_none, errW_some] <;> rfl), by repeat (first | (with_reducible first | exact HB.out | apply below_alloc | apply pw_below_drewN | apply below_drew1 | refine below_set ?_ GE589.out | refine below_set ?_ GE599.out) | exact HB.out)⟩
        ·rw [if_neg c32] at H
         have c32b0 : (t598 == 0) = false := beq_eq_false_iff_ne.mpr c32
         have c32b1 : (t598 != 0) = true := bne_iff_ne.mpr c32
         obtain rfl := Option.some.inj H
         go_wp2
         go_ret
         exact ⟨by first | rfl | (simp [errW_none, errW_some] <;> rfl) | (simp [*, errW_none, errW_some] <;> rfl), by repeat (first | (with_reducible first | exact HB.out | apply below_alloc | apply pw_below_drewN | apply below_drew1 | refine below_set ?_ GE589.out | refine below_set ?_ GE599.out) | exact HB.out)⟩
       ·replace c31 := Bool.eq_false_iff.mpr c31
        subst c31
        have H1 : (some false) = some r := by rw [if_neg (show ¬ (false = true) by decide)] at H; exact H
        clear H
        have H := H1
        clear H1
        obtain rfl := Option.some.inj H
        go_wp2
        go_ret
        exact ⟨by first | rfl | (simp [errW_none, errW_some] <;> rfl) | (simp [*, errW_none, errW_some] <;> rfl), by repeat (first | (with_reducible first | exact HB.out | apply below_alloc | apply pw_below_drewN | apply below_drew1 | refine below_set ?_ GE589.out | refine below_set ?_ GE599.out) | exact HB.out)⟩
      ·replace c30 := Bool.eq_false_iff.mpr c30
       subst c30
       have H1 : (if (l2.length : Int) < (l0_0.length : Int) then (some false) else ((some (([] : List Int) : List Int)).bind fun y602 => (if 0 ≤ (wrap64 ((l2.length : Int) - (l0_0.length : Int))) then (if (wrap64 ((l2.length : Int) - (l0_0.length : Int))) ≤ (l2.length : Int) then (if y602.length + (l2.drop ((wrap64 ((l2.length : Int) - (l0_0.length : Int))) : Int).toNat).length < 17592186044416 then (fullerlaw03_TensorIndex.l0 kj19 t590 t600 (y602 ++ (l2.drop ((wrap64 ((l2.length : Int) - (l0_0.length : Int))) : Int).toNat)) 0 l0_0 l0_1) else (none)) else (none)) else (none)))) = some r := by rw [if_neg (show ¬ (false = true) by decide)] at H; exact H
       clear H
       have H := H1
       clear H1
       by_cases c33 : (l2.length : Int) < (l0_0.length : Int)
       ·rw [if_pos c33] at H
        have c33b0 : decide ((l2.length : Int) < (l0_0.length : Int)) = true := decide_eq_true c33
        have c33b1 : decide (l2.length < l0_0.length) = true := decide_eq_true (Int.ofNat_lt.mp c33)
        clear c33
        obtain rfl := Option.some.inj H
        have hnb34 := NB589_599.out
        have hnc34 := NB599_589.out
        have hcz35_0 : wc.cell? ⟨gb589, 0, none⟩ = some (.slice A0_0 l0_0.length c0_0) := (blk_cell BK589.out 0).trans rfl
        have hcz35_1 : wc.cell? ⟨gb589, 1, none⟩ = some (.slice A0_1 l0_1.length c0_1) := (blk_cell BK589.out 1).trans rfl
        have hfz35_0 := blk_frozen BK589.out 0
        have hfz35_1 := blk_frozen BK589.out 1
        go_wp2
        go_ret
        exact ⟨by first | rfl | (simp [errW_none, errW_some] <;> rfl) | (simp [*, errW_none, errW_some] <;> rfl), by repeat (first | (with_reducible first | exact HB.out | apply below_alloc | apply pw_below_drewN | apply below_drew1 | refine below_set ?_ GE589.out | refine below_set ?_ GE599.out) | exact HB.out)⟩
       ·rw [if_neg c33] at H
        have c33b0 : decide ((l2.length : Int) < (l0_0.length : Int)) = false := decide_eq_false c33
        have c33b1 : decide (l2.length < l0_0.length) = false := decide_eq_false (fun h => c33 (Int.ofNat_lt.mpr h))
        clear c33
        obtain ⟨y602, hy602⟩ : ∃ y_ : List Int, y_ = (([] : List Int)) := ⟨_, rfl⟩
        replace H : (if 0 ≤ (wrap64 ((l2.length : Int) - (l0_0.length : Int))) then (if (wrap64 ((l2.length : Int) - (l0_0.length : Int))) ≤ (l2.length : Int) then (if y602.length + (l2.drop ((wrap64 ((l2.length : Int) - (l0_0.length : Int))) : Int).toNat).length < 17592186044416 then (fullerlaw03_TensorIndex.l0 kj19 t590 t600 (y602 ++ (l2.drop ((wrap64 ((l2.length : Int) - (l0_0.length : Int))) : Int).toNat)) 0 l0_0 l0_1) else (none)) else (none)) else (none)) = some r := by first | (rw [hy602]; with_reducible exact H) | (have H2_ := (Option.bind_some _ _).symm.trans H; rw [hy602]; with_reducible exact H2_) | (have H2_ := (Option.bind_some _ _).symm.trans H; with_reducible exact H2_) | with_reducible exact H | (rw [hy602]; exact H) | exact H
        have Ny602 := Aside0.mk hy602
        clear hy602
        obtain ⟨ji36, hji36⟩ : ∃ j_ : Int, (wrap64 ((l2.length : Int) - (l0_0.length : Int))) = j_ := ⟨_, rfl⟩
        replace H : (if 0 ≤ (ji36) then (if (ji36) ≤ (l2.length : Int) then (if y602.length + (l2.drop ((ji36) : Int).toNat).length < 17592186044416 then (fullerlaw03_TensorIndex.l0 kj19 t590 t600 (y602 ++ (l2.drop ((ji36) : Int).toNat)) 0 l0_0 l0_1) else (none)) else (none)) else (none)) = some r := by first | (rw [hji36] at H; exact H) | (simp only [hji36] at H ⊢; exact H)
        have hji36w : (IntKind.i64.wrap ((l2.length : Int) - (l0_0.length : Int))) = ji36 := (i64_w _).trans hji36
        by_cases c37 : 0 ≤ (ji36)
        ·rw [if_pos c37] at H
         have c37b0 := eq_true c37
         have c37b1 : decide (0 ≤ (ji36)) = true := decide_eq_true c37
         clear c37
         by_cases c38 : (ji36) ≤ (l2.length : Int)
         ·rw [if_pos c38] at H
          have c38b0 := eq_true c38
          have c38b1 : decide ((ji36) ≤ (l2.length : Int)) = true := decide_eq_true c38
          clear c38
          by_cases c39 : y602.length + (l2.drop ((ji36) : Int).toNat).length < 17592186044416
          ·rw [if_pos c39] at H
           have LMc39 := Aside0.mk c39
           clear c39
           obtain ⟨y606, hy606⟩ : ∃ y_ : List Int, y_ = (y602 ++ (l2.drop ((ji36) : Int).toNat)) := ⟨_, rfl⟩
           replace H : (fullerlaw03_TensorIndex.l0 kj19 t590 t600 y606 0 l0_0 l0_1) = some r := by first | (rw [hy606]; with_reducible exact H) | (have H2_ := (Option.bind_some _ _).symm.trans H; rw [hy606]; with_reducible exact H2_) | (have H2_ := (Option.bind_some _ _).symm.trans H; with_reducible exact H2_) | with_reducible exact H | (rw [hy606]; exact H) | exact H
           have Ny606 := Aside0.mk hy606
           clear hy606
           have H' := Aside0.mk H
           clear H
           have hnb40 := NB589_599.out
           have hnc40 := NB599_589.out
           have hcz41_0 : wc.cell? ⟨gb589, 0, none⟩ = some (.slice A0_0 l0_0.length c0_0) := (blk_cell BK589.out 0).trans rfl
           have hcz41_1 : wc.cell? ⟨gb589, 1, none⟩ = some (.slice A0_1 l0_1.length c0_1) := (blk_cell BK589.out 1).trans rfl
           have hfz41_0 := blk_frozen BK589.out 0
           have hfz41_1 := blk_frozen BK589.out 1
           go_wp2_with (first | ((with_reducible refine gate_dst (N := 64) rfl ?_); (try (refine gate_guard (by rfl) ?_; dsimp only)); refine Kd.R_lit (Kd.int .i64) _ 3 ?hg (N := 64) ?hd (xs := ([] : List Int)) (inner := []) (ok := fun _ => True) (okp := fun _ => True) ?hr ?hp (fun _ hk => hk) trivial (Below.refl _ _) (Nat.le_refl _) (by simp) ?_; (case hd => rfl); (case hg => rfl); (case hr => first | (go_simp; done) | (go_simp; rfl)); (case hp => exact (Reps.none _ _)); intro v603 w42 ho43 hb hg_ hnew_; clear hg_ hnew_; (first | rw [← Ny602.out] at ho43 | (simp only [Int.reduceToNat] at ho43; rw [← Ny602.out] at ho43)); have n0_ := Aside0.mk (Kd.R_elder' (mvR_ HO_600000.out) (Kd.R_base ho43) hb); have n1_ := Aside0.mk (Kd.R_elder' (mvR_ HO_600001.out) (Kd.R_base ho43) hb); have n2_ := Aside0.mk (Kd.R_lower (Kd.R_new' (Kd.R_new' ho43 (Kd.R_lt (mvR_ HO_600000.out))) (Kd.R_lt (mvR_ HO_600001.out))) (below_size (bq2_ HB.out GE589.out GE599.out))); have n3_ := Aside0.mk (blk_below (g := gb589) (o := .cells #[.slice A0_0 l0_0.length c0_0, .slice A0_1 l0_1.length c0_1] 24 (0, 0)) (mvK_ BK589.out) hb); have n4_ := Aside0.mk (blk_below (g := gb599) (o := .cells #[.slice Ao24 t592.length co24, .slice Ao27 t595.length co27] 24 (0, 0)) (mvK_ BK599.out) hb); have n5_ := Aside0.mk (below_step (bq2_ HB.out GE589.out GE599.out) hb); clear HO_600000; clear HO_600001; clear BK589; clear BK599; clear HB; have HO_600000 := n0_; have HO_600001 := n1_; have HO604 := n2_; have BK589 := n3_; have BK599 := n4_; have HB := n5_; clear n0_ n1_ n2_ n3_ n4_ n5_; clear hb ho43; have hcz44_0 : w42.cell? ⟨gb589, 0, none⟩ = some (.slice A0_0 l0_0.length c0_0) := (blk_cell BK589.out 0).trans rfl; have hcz44_1 : w42.cell? ⟨gb589, 1, none⟩ = some (.slice A0_1 l0_1.length c0_1) := (blk_cell BK589.out 1).trans rfl; have hfz44_0 := blk_frozen BK589.out 0; have hfz44_1 := blk_frozen BK589.out 1; obtain ⟨i045, hi045, _, hsz45, _⟩ := info_parts info3; obtain ⟨A45, hcut45, hA45, hC45⟩ := print_drop_of (P := Try.prog) (Value.int .i64) 0 22 3 .i64 Try.underlying22 hi045 hsz45 A2 c2 l2 (ji36) od_ od_ HC2.out; have HR605 := Aside0.mk (Kd.C_of_reads (h1 := fun _ => rfl) (hA45 _ (Kd.reads_of_C HR2.out))); have HC605 := Aside0.mk hC45; clear hA45 hC45 hi045 hsz45) | ((with_reducible refine gate_builtin (b := .append) (xs := #[.tmp 64, .tmp 72]) rfl ?_); (try (refine gate_guard (by rfl) ?_; dsimp only)); at_builtin; refine Kd.R_append_rows (Kd.int .i64) (w0 := w) w.heap.size rfl (.tmp 64) (.tmp 72) 22 3 (.int .i64 0) 8 rfl Try.underlying22 info3 rfl (by decide) (by omega) v603 y602 (l2.drop ((ji36) : Int).toNat) _ _ _ (fun k_ => some k_ ≠ (.slice Ao24 t592.length co24 : Value).ownBlock ∧ some k_ ≠ (.slice Ao27 t595.length co27 : Value).ownBlock) (fun _ => False) rfl rfl ?aO ?aR (fun _ _ h => h) (fun _ h => h.elim) ?aF ?aB ?aS ?aL ?_; (case aR => first | (rw [← show (l2.drop ((ji36) : Int).toNat).length = (l2.length - (ji36).toNat) from List.length_drop]; repeat (first | exact (Kd.C_below HR605.out HB.out) | (with_reducible refine Kd.C_alloc ?_ _) | (with_reducible refine Kd.C_drewN ?_ _) | (with_reducible refine Kd.C_drew ?_))) | (repeat (first | exact (Kd.C_below HR605.out HB.out) | (with_reducible refine Kd.C_alloc ?_ _) | (with_reducible refine Kd.C_drewN ?_ _) | (with_reducible refine Kd.C_drew ?_)))); (case aB => exact (bq2_ HB.out GE589.out GE599.out)); (case aF => exact (fun k_ hk => ⟨Kd.fresh' (Kd.R_lt (mvR_ HO_600000.out)) k_ hk, Kd.fresh' (Kd.R_lt (mvR_ HO_600001.out)) k_ hk⟩)); (case aO => exact (by (with_reducible repeat (first | apply Kd.R_alloc | apply Kd.R_drewN | apply Kd.R_drew)); exact Kd.R_mono HO604.out (fun _ hk => ⟨hk.1.2, hk.2⟩))); (case aS => exact (below_size (bq2_ HB.out GE589.out GE599.out))); (case aL => have := LMc39.out; have hlx_ := (show (l2.drop ((ji36) : Int).toNat).length = (l2.length - (ji36).toNat) from List.length_drop); omega); intro v607 w46 ho hb hg hat; rw [← Ny606.out] at ho; have n0_ := Aside0.mk (Kd.R_after (ok := (fun k_ => some k_ ≠ (.slice Ao27 t595.length co27 : Value).ownBlock)) (mvR_ HO_600000.out) hg hat); have n1_ := Aside0.mk (Kd.R_after (ok := (fun k_ => some k_ ≠ (.slice Ao24 t592.length co24 : Value).ownBlock)) (mvR_ HO_600001.out) hg hat); have n2_ := Aside0.mk (blk_grown (g := gb589) (o := .cells #[.slice A0_0 l0_0.length c0_0, .slice A0_1 l0_1.length c0_1] 24 (0, 0)) (mvK_ BK589.out) hg (Kd.R_ne HO604.out BK589.out (by decide))); have n3_ := Aside0.mk (blk_grown (g := gb599) (o := .cells #[.slice Ao24 t592.length co24, .slice Ao27 t595.length co27] 24 (0, 0)) (mvK_ BK599.out) hg (Kd.R_ne HO604.out BK599.out (by decide))); have n4_ := Aside0.mk (hb); have n5_ := Aside0.mk (ho); clear HO_600000; clear HO_600001; clear BK589; clear BK599; clear HB; clear HO604; have HO_600000 := n0_; have HO_600001 := n1_; have BK589 := n2_; have BK599 := n3_; have HB := n4_; have HO608 := n5_; clear n0_ n1_ n2_ n3_ n4_ n5_; clear ho hb hg hat))
           go_loopg [13] kj19 (fun kq v13 w' => ∃ (x12_3 : List Int) (x13_3 : Int), v13 = .int .i64 x13_3 ∧ Aside0 (fullerlaw03_TensorIndex.l0 kq t590 t600 x12_3 x13_3 l0_0 l0_1 = some r) ∧ Aside0 (kq ≤ kj19) ∧ Aside0 (Kd.R (Kd.int .i64) 3 w' w.heap.size (fun k_ => some k_ ≠ ((.slice Ao24 t592.length co24) : Value).ownBlock ∧ some k_ ≠ ((.slice Ao27 t595.length co27) : Value).ownBlock) v607 x12_3) ∧ Aside0 (Kd.R (Kd.int .i64) 3 w' w.heap.size (fun k_ => some k_ ≠ (v607 : Value).ownBlock ∧ some k_ ≠ ((.slice Ao27 t595.length co27) : Value).ownBlock) (.slice Ao24 t592.length co24) t592) ∧ Aside0 (Kd.R (Kd.int .i64) 3 w' w.heap.size (fun k_ => some k_ ≠ (v607 : Value).ownBlock ∧ some k_ ≠ ((.slice Ao24 t592.length co24) : Value).ownBlock) (.slice Ao27 t595.length co27) t595) ∧ Aside0 (w'.heap[gb589]? = some (.cells #[(.slice A0_0 l0_0.length c0_0), (.slice A0_1 l0_1.length c0_1)] 24 (0, 0))) ∧ Aside0 (w'.heap[gb599]? = some (.cells #[(.slice Ao24 t592.length co24), (.slice Ao27 t595.length co27)] 24 (0, 0))) ∧ Aside0 (Below w.heap.size w w'))
           case atStart => exact ⟨(y606), (0), (by first | rfl | (simp; done) | (simp [*]; done)), H', ⟨Nat.le_refl _⟩, ⟨by (with_reducible repeat (first | apply Kd.R_alloc | apply Kd.R_drewN | apply Kd.R_drew)); exact HO608.out⟩, ⟨by (with_reducible repeat (first | apply Kd.R_alloc | apply Kd.R_drewN | apply Kd.R_drew)); exact Kd.R_mono HO_600000.out (fun _ hk => ⟨hk.2, hk.1⟩)⟩, ⟨by (with_reducible repeat (first | apply Kd.R_alloc | apply Kd.R_drewN | apply Kd.R_drew)); exact Kd.R_mono HO_600001.out (fun _ hk => ⟨hk.2, hk.1⟩)⟩, ⟨by (with_reducible repeat (first | refine blk_drewN ?_ _ | refine blk_drew ?_ | refine blk_alloc ?_ _)); exact BK589.out⟩, ⟨by (with_reducible repeat (first | refine blk_drewN ?_ _ | refine blk_drew ?_ | refine blk_alloc ?_ _)); exact BK599.out⟩, ⟨by repeat (first | (with_reducible first | exact HB.out | apply below_alloc | apply pw_below_drewN | apply below_drew1 | refine below_set ?_ GE589.out | refine below_set ?_ GE599.out) | exact HB.out)⟩⟩
           case round =>
            clear H'
            try clear c1
            try clear c2
            try clear p2
            try clear c3
            try clear c4
            try clear p6
            try clear c8
            try clear c9
            try clear c10
            try clear c10b0
            try clear c10b1
            try clear c16
            try clear c17
            try clear c20
            try clear c25
            try clear c29
            try clear c29b0
            try clear c29b1
            try clear c30
            try clear c31
            try clear c32
            try clear c32b0
            try clear c32b1
            try clear c33
            try clear c33b0
            try clear c33b1
            try clear c34
            try clear c37
            try clear c37b0
            try clear c37b1
            try clear c38
            try clear c38b0
            try clear c38b1
            try clear c39
            try clear c40
            try clear hcz11_0
            try clear hcz11_1
            try clear hcz13_0
            try clear hcz13_1
            try clear hcz15_0
            try clear hcz15_1
            try clear hcz21_0
            try clear hcz21_1
            try clear hcz26_0
            try clear hcz26_1
            try clear hcz35_0
            try clear hcz35_1
            try clear hcz41_0
            try clear hcz41_1
            try clear hcz44_0
            try clear hcz44_1
            try clear hfz11_0
            try clear hfz11_1
            try clear hfz13_0
            try clear hfz13_1
            try clear hfz15_0
            try clear hfz15_1
            try clear hfz21_0
            try clear hfz21_1
            try clear hfz26_0
            try clear hfz26_1
            try clear hfz35_0
            try clear hfz35_1
            try clear hfz41_0
            try clear hfz41_1
            try clear hfz44_0
            try clear hfz44_1
            try clear p2
            obtain ⟨x12_3, x13_3, rfl, HA, HK3, HO_12, HO_600000, HO_600001, BK589, BK599, HB⟩ := hrel
            cases gk with
            | zero => exact absurd HA.out (by simp [fullerlaw03_TensorIndex.l0])
            | succ k3 =>
             have H := HA.out
             clear HA
             simp only [fullerlaw03_TensorIndex.l0] at H
             by_cases c47 : x13_3 < (x12_3.length : Int)
             ·rw [if_pos c47] at H
              have c47b0 : decide (x13_3 < (x12_3.length : Int)) = true := decide_eq_true c47
              clear c47
              by_cases c48 : 0 ≤ x13_3
              ·rw [if_pos c48] at H
               have c48b0 : decide (0 ≤ x13_3) = true := decide_eq_true c48
               clear c48
               by_cases c49 : x13_3 < (l0_0.length : Int)
               ·rw [if_pos c49] at H
                have c49b0 : decide (x13_3 < (l0_0.length : Int)) = true := decide_eq_true c49
                clear c49
                by_cases c50 : (rd l0_0 x13_3) = 1
                ·rw [if_pos c50] at H
                 have c50b0 : ((rd l0_0 x13_3) == 1) = true := beq_iff_eq.mpr c50
                 have c50b1 : ((rd l0_0 x13_3) != 1) = false := bne_eq_false_iff_eq.mpr c50
                 clear c50
                 obtain ⟨y610, hy610⟩ : ∃ y_ : List Int, y_ = (x12_3.set (x13_3 : Int).toNat 0) := ⟨_, rfl⟩
                 replace H : (fullerlaw03_TensorIndex.l0 k3 t590 t600 y610 (wrap64 (x13_3 + 1)) l0_0 l0_1) = some r := by first | (rw [hy610]; with_reducible exact H) | (have H2_ := (Option.bind_some _ _).symm.trans H; rw [hy610]; with_reducible exact H2_) | (have H2_ := (Option.bind_some _ _).symm.trans H; with_reducible exact H2_) | with_reducible exact H | (rw [hy610]; exact H) | exact H
                 have Ny610 := Aside0.mk hy610
                 clear hy610
                 have H' := Aside0.mk H
                 clear H
                 obtain ⟨Ao52, co52, eo52⟩ := Kd.R_slice HO_12.out
                 subst eo52
                 have hnb53 := NB589_599.out
                 have hnc53 := NB599_589.out
                 have hcz54_0 : wr.cell? ⟨gb589, 0, none⟩ = some (.slice A0_0 l0_0.length c0_0) := (blk_cell BK589.out 0).trans rfl
                 have hcz54_1 : wr.cell? ⟨gb589, 1, none⟩ = some (.slice A0_1 l0_1.length c0_1) := (blk_cell BK589.out 1).trans rfl
                 have hfz54_0 := blk_frozen BK589.out 0
                 have hfz54_1 := blk_frozen BK589.out 1
                 have p609 : 0 ≤ (x13_3 : Int) := od_
                 have q609 : x13_3 < (l0_0.length : Int) := od_
                 obtain ⟨ad609, e609, hx609_0⟩ := Kd.at_int HR0_0.out x13_3 p609 q609
                 cases e609
                 replace hx609_0 := (HB.out.cell (World.block_lt_of_cell? w _ hx609_0)).trans hx609_0
                 replace p609 := eq_true p609
                 replace q609 := eq_true q609
                 have p51 : 0 ≤ (x13_3 : Int) := od_
                 have q51 : (x13_3 : Int) < ((x12_3.length : Int) : Int) := od_
                 obtain ⟨go51, co51, eo51, gb51, gl51, cl51, HG51⟩ := Kd.R_form HO_12.out (by omega)
                 (first | cases eo51 | (injection eo51 with ea_ en_ ec_; (first | subst ea_ | (injection ea_ with ea_; subst ea_)); subst ec_; clear en_))
                 have GB51 := Aside0.mk gb51
                 have GG51 := Aside0.mk HG51
                 clear gb51 gl51 HG51
                 obtain ⟨hx51_0, hf51_0⟩ := Kd.R_celln 0 HO_12.out (x13_3 : Int) p51 q51
                 replace p51 := eq_true p51
                 replace q51 := eq_true q51
                 have HP55 := Kd.R_putg HO_12.out (x13_3 : Int) 0
                 go_wp2_with (first | ((with_reducible refine gate_store (t := 3) (p := 88) rfl ?_); refine store_event (t := 3) (p := 88) (v := ?vo_w56) (w1 := (wr.setCell ⟨go51, (x13_3 : Int).toNat, none⟩ (.int .i64 0))) ?hg ?ho ?hn ?hr ?_; (case ho => rfl); (case hg => rfl); (case hn => rfl); (case hr => first | (go_simp; done) | (go_simp; rfl)); intro w56 hw; have hg : wr.grownBy w56 (some go51) := (by rw [hw]; exact HP55.2); have hp_ : Kd.R (Kd.int .i64) 3 w56 w.heap.size (fun k_ => some k_ ≠ (.slice Ao24 t592.length co24 : Value).ownBlock ∧ some k_ ≠ (.slice Ao27 t595.length co27 : Value).ownBlock) (.slice (some ⟨go51, 0, none⟩) x12_3.length co52) y610 := (by rw [hw, Ny610.out]; exact HP55.1); clear HP55; have n0_ := Aside0.mk (hp_); have n1_ := Aside0.mk (Kd.R_after (v := (.slice (some ⟨go51, 0, none⟩) x12_3.length co52)) (v1 := (.slice (some ⟨go51, 0, none⟩) x12_3.length co52)) (ok := (fun k_ => some k_ ≠ (.slice Ao27 t595.length co27 : Value).ownBlock)) (by (with_reducible repeat (first | apply Kd.R_alloc | apply Kd.R_drewN | apply Kd.R_drew)); exact Kd.R_mono HO_600000.out (fun _ hk => ⟨hk.2, hk.1⟩)) hg (.inl rfl)); have n2_ := Aside0.mk (Kd.R_after (v := (.slice (some ⟨go51, 0, none⟩) x12_3.length co52)) (v1 := (.slice (some ⟨go51, 0, none⟩) x12_3.length co52)) (ok := (fun k_ => some k_ ≠ (.slice Ao24 t592.length co24 : Value).ownBlock)) (by (with_reducible repeat (first | apply Kd.R_alloc | apply Kd.R_drewN | apply Kd.R_drew)); exact Kd.R_mono HO_600001.out (fun _ hk => ⟨hk.2, hk.1⟩)) hg (.inl rfl)); have n3_ := Aside0.mk (blk_grown (g := gb589) (o := .cells #[.slice (some ad609) l0_0.length c0_0, .slice A0_1 l0_1.length c0_1] 24 (0, 0)) (mvK_ BK589.out) hg (Kd.R_ne HO_12.out BK589.out (by decide))); have n4_ := Aside0.mk (blk_grown (g := gb599) (o := .cells #[.slice Ao24 t592.length co24, .slice Ao27 t595.length co27] 24 (0, 0)) (mvK_ BK599.out) hg (Kd.R_ne HO_12.out BK599.out (by decide))); have n5_ := Aside0.mk ((by rw [hw]; exact below_set (HB.out) GB51.out : Below w.heap.size w w56)); clear HO_12; clear HO_600000; clear HO_600001; clear BK589; clear BK599; clear HB; have HO_12 := n0_; have HO_600000 := n1_; have HO_600001 := n2_; have BK589 := n3_; have BK599 := n4_; have HB := n5_; clear n0_ n1_ n2_ n3_ n4_ n5_; clear hg hw hp_))
                 go_roundg k3
                 case measure => have := HJ4.out; have := HJ19.out; have := HK3.out; omega
                 case rel => exact ⟨(y610), (wrap64 (x13_3 + 1)), (by first | rfl | (simp; done) | (simp [*]; done)), H', ⟨by have := HJ4.out; have := HJ19.out; have := HK3.out; omega⟩, ⟨by (with_reducible repeat (first | apply Kd.R_alloc | apply Kd.R_drewN | apply Kd.R_drew)); exact HO_12.out⟩, ⟨by (with_reducible repeat (first | apply Kd.R_alloc | apply Kd.R_drewN | apply Kd.R_drew)); exact Kd.R_mono HO_600000.out (fun _ hk => ⟨hk.2, hk.1⟩)⟩, ⟨by (with_reducible repeat (first | apply Kd.R_alloc | apply Kd.R_drewN | apply Kd.R_drew)); exact Kd.R_mono HO_600001.out (fun _ hk => ⟨hk.2, hk.1⟩)⟩, ⟨by (with_reducible repeat (first | refine blk_drewN ?_ _ | refine blk_drew ?_ | refine blk_alloc ?_ _)); exact BK589.out⟩, ⟨by (with_reducible repeat (first | refine blk_drewN ?_ _ | refine blk_drew ?_ | refine blk_alloc ?_ _)); exact BK599.out⟩, ⟨by repeat (first | (with_reducible first | exact HB.out | apply below_alloc | apply pw_below_drewN | apply below_drew1 | refine below_set ?_ GE589.out | refine below_set ?_ GE599.out) | exact HB.out)⟩⟩
                ·rw [if_neg c50] at H
                 have c50b0 : ((rd l0_0 x13_3) == 1) = false := beq_eq_false_iff_ne.mpr c50
                 have c50b1 : ((rd l0_0 x13_3) != 1) = true := bne_iff_ne.mpr c50
                 have H' := Aside0.mk H
                 clear H
                 obtain ⟨Ao57, co57, eo57⟩ := Kd.R_slice HO_12.out
                 subst eo57
                 have hnb58 := NB589_599.out
                 have hnc58 := NB599_589.out
                 have hcz59_0 : wr.cell? ⟨gb589, 0, none⟩ = some (.slice A0_0 l0_0.length c0_0) := (blk_cell BK589.out 0).trans rfl
                 have hcz59_1 : wr.cell? ⟨gb589, 1, none⟩ = some (.slice A0_1 l0_1.length c0_1) := (blk_cell BK589.out 1).trans rfl
                 have hfz59_0 := blk_frozen BK589.out 0
                 have hfz59_1 := blk_frozen BK589.out 1
                 have p609 : 0 ≤ (x13_3 : Int) := od_
                 have q609 : x13_3 < (l0_0.length : Int) := od_
                 obtain ⟨ad609, e609, hx609_0⟩ := Kd.at_int HR0_0.out x13_3 p609 q609
                 cases e609
                 replace hx609_0 := (HB.out.cell (World.block_lt_of_cell? w _ hx609_0)).trans hx609_0
                 replace p609 := eq_true p609
                 replace q609 := eq_true q609
                 go_wp2
                 go_roundg k3
                 case measure => have := HJ4.out; have := HJ19.out; have := HK3.out; omega
                 case rel => exact ⟨(x12_3), (wrap64 (x13_3 + 1)), (by first | rfl | (simp; done) | (simp [*]; done)), H', ⟨by have := HJ4.out; have := HJ19.out; have := HK3.out; omega⟩, ⟨by (with_reducible repeat (first | apply Kd.R_alloc | apply Kd.R_drewN | apply Kd.R_drew)); exact HO_12.out⟩, ⟨by (with_reducible repeat (first | apply Kd.R_alloc | apply Kd.R_drewN | apply Kd.R_drew)); exact HO_600000.out⟩, ⟨by (with_reducible repeat (first | apply Kd.R_alloc | apply Kd.R_drewN | apply Kd.R_drew)); exact HO_600001.out⟩, ⟨by (with_reducible repeat (first | refine blk_drewN ?_ _ | refine blk_drew ?_ | refine blk_alloc ?_ _)); exact BK589.out⟩, ⟨by (with_reducible repeat (first | refine blk_drewN ?_ _ | refine blk_drew ?_ | refine blk_alloc ?_ _)); exact BK599.out⟩, ⟨by repeat (first | (with_reducible first | exact HB.out | apply below_alloc | apply pw_below_drewN | apply below_drew1 | refine below_set ?_ GE589.out | refine below_set ?_ GE599.out) | exact HB.out)⟩⟩
               ·rw [if_neg c49] at H
                exact absurd H (by simp)
              ·rw [if_neg c48] at H
               exact absurd H (by simp)
             ·rw [if_neg c47] at H
              have c47b0 : decide (x13_3 < (x12_3.length : Int)) = false := decide_eq_false c47
              clear c47
              replace H := Option.bind_eq_some_iff.mp H
              obtain ⟨⟨t611, t612⟩, A600, H⟩ := H
              replace H : (if t590 = true then (if t612 = 0 then (some (t611 == t600)) else (some false)) else (some false)) = some r := H
              have A60 := Aside0.mk A600
              clear A600
              by_cases c61 : t590 = true
              ·subst c61
               have H1 : (if t612 = 0 then (some (t611 == t600)) else (some false)) = some r := by rw [if_pos rfl] at H; exact H
               clear H
               have H := H1
               clear H1
               by_cases c62 : t612 = 0
               ·rw [if_pos c62] at H
                have c62b0 : (t612 == 0) = true := beq_iff_eq.mpr c62
                have c62b1 : (t612 != 0) = false := bne_eq_false_iff_eq.mpr c62
                clear c62
                obtain rfl := Option.some.inj H
                obtain ⟨Ao63, co63, eo63⟩ := Kd.R_slice HO_12.out
                subst eo63
                have hnb64 := NB589_599.out
                have hnc64 := NB599_589.out
                have hcz65_0 : wr.cell? ⟨gb589, 0, none⟩ = some (.slice A0_0 l0_0.length c0_0) := (blk_cell BK589.out 0).trans rfl
                have hcz65_1 : wr.cell? ⟨gb589, 1, none⟩ = some (.slice A0_1 l0_1.length c0_1) := (blk_cell BK589.out 1).trans rfl
                have hfz65_0 := blk_frozen BK589.out 0
                have hfz65_1 := blk_frozen BK589.out 1
                go_wp2_with (first | ((with_reducible refine gate_callee (f := 20) rfl ?_); refine goesL_ (some 92) rfl rfl Try.func20 (by kernel_rfl) rfl #[.agg #[.slice A0_0 l0_0.length c0_0, .slice A0_1 l0_1.length c0_1], .slice Ao63 x12_3.length co63] rfl (by (try simp only [List.map_toArray, List.map_cons, List.map_nil]); first | done | rfl | (simp only [List.length_drop, List.length_take]; rfl)) ?_; (with_reducible refine (tensor_At.calls k3 _ _ l0_0 _ _ l0_1 _ _ x12_3 t611 t612 _ ?side1 ?side2 ?side3 ?side4 ?side5 ?side6 A60.out).mono ?_); (case side1 => exact mvC_ ((Kd.C_below HR0_0.out HB.out))); (case side2 => exact HC0_0.out); (case side3 => exact mvC_ ((Kd.C_below HR0_1.out HB.out))); (case side4 => exact HC0_1.out); (case side5 => exact mvC_ ((Kd.R_reads' HO_12.out).2.2)); (case side6 => exact (Kd.R_reads' HO_12.out).2.1); rintro e w66 ⟨rfl, hb⟩; refine ⟨_, rfl, ?_⟩; have n0_ := Aside0.mk (Kd.R_below (mvR_ HO_12.out) hb); have n1_ := Aside0.mk (Kd.R_below (mvR_ HO_600000.out) hb); have n2_ := Aside0.mk (Kd.R_below (mvR_ HO_600001.out) hb); have n3_ := Aside0.mk (blk_below (g := gb589) (o := .cells #[.slice A0_0 l0_0.length c0_0, .slice A0_1 l0_1.length c0_1] 24 (0, 0)) (mvK_ BK589.out) hb); have n4_ := Aside0.mk (blk_below (g := gb599) (o := .cells #[.slice Ao24 t592.length co24, .slice Ao27 t595.length co27] 24 (0, 0)) (mvK_ BK599.out) hb); have n5_ := Aside0.mk (below_step (bq2_ HB.out GE589.out GE599.out) hb); clear HO_12; clear HO_600000; clear HO_600001; clear BK589; clear BK599; clear HB; have HO_12 := n0_; have HO_600000 := n1_; have HO_600001 := n2_; have BK589 := n3_; have BK599 := n4_; have HB := n5_; clear n0_ n1_ n2_ n3_ n4_ n5_; (try clear hb)))
                go_ret
                exact ⟨by first | rfl | (simp [errW_none, errW_some] <;> rfl) | (simp only [← hji36]; first | rfl | (simp [errW_none, errW_some] <;> rfl)) | (simp [*, errW_none, errW_some] <;> rfl), by repeat (first | (with_reducible first | exact HB.out | apply below_alloc | apply pw_below_drewN | apply below_drew1 | refine below_set ?_ GE589.out | refine below_set ?_ GE599.out) | exact HB.out)⟩
               ·rw [if_neg c62] at H
                have c62b0 : (t612 == 0) = false := beq_eq_false_iff_ne.mpr c62
                have c62b1 : (t612 != 0) = true := bne_iff_ne.mpr c62
                obtain rfl := Option.some.inj H
                obtain ⟨Ao67, co67, eo67⟩ := Kd.R_slice HO_12.out
                subst eo67
                have hnb68 := NB589_599.out
                have hnc68 := NB599_589.out
                have hcz69_0 : wr.cell? ⟨gb589, 0, none⟩ = some (.slice A0_0 l0_0.length c0_0) := (blk_cell BK589.out 0).trans rfl
                have hcz69_1 : wr.cell? ⟨gb589, 1, none⟩ = some (.slice A0_1 l0_1.length c0_1) := (blk_cell BK589.out 1).trans rfl
                have hfz69_0 := blk_frozen BK589.out 0
                have hfz69_1 := blk_frozen BK589.out 1
                go_wp2_with (first | ((with_reducible refine gate_callee (f := 20) rfl ?_); refine goesL_ (some 92) rfl rfl Try.func20 (by kernel_rfl) rfl #[.agg #[.slice A0_0 l0_0.length c0_0, .slice A0_1 l0_1.length c0_1], .slice Ao67 x12_3.length co67] rfl (by (try simp only [List.map_toArray, List.map_cons, List.map_nil]); first | done | rfl | (simp only [List.length_drop, List.length_take]; rfl)) ?_; (with_reducible refine (tensor_At.calls k3 _ _ l0_0 _ _ l0_1 _ _ x12_3 t611 t612 _ ?side1 ?side2 ?side3 ?side4 ?side5 ?side6 A60.out).mono ?_); (case side1 => exact mvC_ ((Kd.C_below HR0_0.out HB.out))); (case side2 => exact HC0_0.out); (case side3 => exact mvC_ ((Kd.C_below HR0_1.out HB.out))); (case side4 => exact HC0_1.out); (case side5 => exact mvC_ ((Kd.R_reads' HO_12.out).2.2)); (case side6 => exact (Kd.R_reads' HO_12.out).2.1); rintro e w70 ⟨rfl, hb⟩; refine ⟨_, rfl, ?_⟩; have n0_ := Aside0.mk (Kd.R_below (mvR_ HO_12.out) hb); have n1_ := Aside0.mk (Kd.R_below (mvR_ HO_600000.out) hb); have n2_ := Aside0.mk (Kd.R_below (mvR_ HO_600001.out) hb); have n3_ := Aside0.mk (blk_below (g := gb589) (o := .cells #[.slice A0_0 l0_0.length c0_0, .slice A0_1 l0_1.length c0_1] 24 (0, 0)) (mvK_ BK589.out) hb); have n4_ := Aside0.mk (blk_below (g := gb599) (o := .cells #[.slice Ao24 t592.length co24, .slice Ao27 t595.length co27] 24 (0, 0)) (mvK_ BK599.out) hb); have n5_ := Aside0.mk (below_step (bq2_ HB.out GE589.out GE599.out) hb); clear HO_12; clear HO_600000; clear HO_600001; clear BK589; clear BK599; clear HB; have HO_12 := n0_; have HO_600000 := n1_; have HO_600001 := n2_; have BK589 := n3_; have BK599 := n4_; have HB := n5_; clear n0_ n1_ n2_ n3_ n4_ n5_; (try clear hb)))
                go_ret
                exact ⟨by first | rfl | (simp [errW_none, errW_some] <;> rfl) | (simp only [← hji36]; first | rfl | (simp [errW_none, errW_some] <;> rfl)) | (simp [*, errW_none, errW_some] <;> rfl), by repeat (first | (with_reducible first | exact HB.out | apply below_alloc | apply pw_below_drewN | apply below_drew1 | refine below_set ?_ GE589.out | refine below_set ?_ GE599.out) | exact HB.out)⟩
              ·replace c61 := Bool.eq_false_iff.mpr c61
               subst c61
               have H1 : (some false) = some r := by rw [if_neg (show ¬ (false = true) by decide)] at H; exact H
               clear H
               have H := H1
               clear H1
               obtain rfl := Option.some.inj H
               obtain ⟨Ao71, co71, eo71⟩ := Kd.R_slice HO_12.out
               subst eo71
               have hnb72 := NB589_599.out
               have hnc72 := NB599_589.out
               have hcz73_0 : wr.cell? ⟨gb589, 0, none⟩ = some (.slice A0_0 l0_0.length c0_0) := (blk_cell BK589.out 0).trans rfl
               have hcz73_1 : wr.cell? ⟨gb589, 1, none⟩ = some (.slice A0_1 l0_1.length c0_1) := (blk_cell BK589.out 1).trans rfl
               have hfz73_0 := blk_frozen BK589.out 0
               have hfz73_1 := blk_frozen BK589.out 1
               go_wp2_with (first | ((with_reducible refine gate_callee (f := 20) rfl ?_); refine goesL_ (some 92) rfl rfl Try.func20 (by kernel_rfl) rfl #[.agg #[.slice A0_0 l0_0.length c0_0, .slice A0_1 l0_1.length c0_1], .slice Ao71 x12_3.length co71] rfl (by (try simp only [List.map_toArray, List.map_cons, List.map_nil]); first | done | rfl | (simp only [List.length_drop, List.length_take]; rfl)) ?_; (with_reducible refine (tensor_At.calls k3 _ _ l0_0 _ _ l0_1 _ _ x12_3 t611 t612 _ ?side1 ?side2 ?side3 ?side4 ?side5 ?side6 A60.out).mono ?_); (case side1 => exact mvC_ ((Kd.C_below HR0_0.out HB.out))); (case side2 => exact HC0_0.out); (case side3 => exact mvC_ ((Kd.C_below HR0_1.out HB.out))); (case side4 => exact HC0_1.out); (case side5 => exact mvC_ ((Kd.R_reads' HO_12.out).2.2)); (case side6 => exact (Kd.R_reads' HO_12.out).2.1); rintro e w74 ⟨rfl, hb⟩; refine ⟨_, rfl, ?_⟩; have n0_ := Aside0.mk (Kd.R_below (mvR_ HO_12.out) hb); have n1_ := Aside0.mk (Kd.R_below (mvR_ HO_600000.out) hb); have n2_ := Aside0.mk (Kd.R_below (mvR_ HO_600001.out) hb); have n3_ := Aside0.mk (blk_below (g := gb589) (o := .cells #[.slice A0_0 l0_0.length c0_0, .slice A0_1 l0_1.length c0_1] 24 (0, 0)) (mvK_ BK589.out) hb); have n4_ := Aside0.mk (blk_below (g := gb599) (o := .cells #[.slice Ao24 t592.length co24, .slice Ao27 t595.length co27] 24 (0, 0)) (mvK_ BK599.out) hb); have n5_ := Aside0.mk (below_step (bq2_ HB.out GE589.out GE599.out) hb); clear HO_12; clear HO_600000; clear HO_600001; clear BK589; clear BK599; clear HB; have HO_12 := n0_; have HO_600000 := n1_; have HO_600001 := n2_; have BK589 := n3_; have BK599 := n4_; have HB := n5_; clear n0_ n1_ n2_ n3_ n4_ n5_; (try clear hb)))
               go_ret
               exact ⟨by first | rfl | (simp [errW_none, errW_some] <;> rfl) | (simp only [← hji36]; first | rfl | (simp [errW_none, errW_some] <;> rfl)) | (simp [*, errW_none, errW_some] <;> rfl), by repeat (first | (with_reducible first | exact HB.out | apply below_alloc | apply pw_below_drewN | apply below_drew1 | refine below_set ?_ GE589.out | refine below_set ?_ GE599.out) | exact HB.out)⟩
          ·rw [if_neg c39] at H
           exact absurd H (by simp)
         ·rw [if_neg c38] at H
          exact absurd H (by simp)
        ·rw [if_neg c37] at H
         exact absurd H (by simp)

/-- THE ONE PURE STATEMENT of fullerlaw03_TensorIndex: yours. -/
def fullerlaw03_TensorIndex.Pure : Prop := ∀ (l0_0 : List Int) (l0_1 : List Int) (l1 : List Int) (l2 : List Int), (l0_0.length * 8 ≤ 140737488351232 ∧ ∀ x_ ∈ l0_0, (Lit.int .i64 x_).wf = true) → (l0_1.length * 8 ≤ 140737488351232 ∧ ∀ x_ ∈ l0_1, (Lit.int .i64 x_).wf = true) → (l1.length * 8 ≤ 140737488351232 ∧ ∀ x_ ∈ l1, (Lit.int .i64 x_).wf = true) → (l2.length * 8 ≤ 140737488351232 ∧ ∀ x_ ∈ l2, (Lit.int .i64 x_).wf = true) → ∃ k, fullerlaw03_TensorIndex.f k l0_0 l0_1 l1 l2 = some true
theorem fullerlaw03_TensorIndex.walk (P : fullerlaw03_TensorIndex.Pure) (A0_0 : Option Addr) (c0_0 : Nat) (l0_0 : List Int) (A0_1 : Option Addr) (c0_1 : Nat) (l0_1 : List Int) (A1 : Option Addr) (c1 : Nat) (l1 : List Int) (A2 : Option Addr) (c2 : Nat) (l2 : List Int) (w : World) (hr0_0 : Kd.C (Kd.int .i64) w A0_0 l0_0.length l0_0) (hc0_0 : l0_0.length ≤ c0_0) (hr0_1 : Kd.C (Kd.int .i64) w A0_1 l0_1.length l0_1) (hc0_1 : l0_1.length ≤ c0_1) (hr1 : Kd.C (Kd.int .i64) w A1 l1.length l1) (hc1 : l1.length ≤ c1) (hr2 : Kd.C (Kd.int .i64) w A2 l2.length l2) (hc2 : l2.length ≤ c2) (hg0_0 : l0_0.length * 8 ≤ 140737488351232 ∧ ∀ x_ ∈ l0_0, (Lit.int .i64 x_).wf = true) (hg0_1 : l0_1.length * 8 ≤ 140737488351232 ∧ ∀ x_ ∈ l0_1, (Lit.int .i64 x_).wf = true) (hg1 : l1.length * 8 ≤ 140737488351232 ∧ ∀ x_ ∈ l1, (Lit.int .i64 x_).wf = true) (hg2 : l2.length * 8 ≤ 140737488351232 ∧ ∀ x_ ∈ l2, (Lit.int .i64 x_).wf = true) :
  Calls Try.prog 8 #[.agg #[.slice A0_0 l0_0.length c0_0, .slice A0_1 l0_1.length c0_1], .slice A1 l1.length c1, .slice A2 l2.length c2] w fun e w' => e = .returned (.bool true) ∧ Below w.heap.size w w' := by
 obtain ⟨k, h⟩ := P l0_0 l0_1 l1 l2 hg0_0 hg0_1 hg1 hg2
 refine (fullerlaw03_TensorIndex.calls k _ _ l0_0 _ _ l0_1 _ _ l1 _ _ l2 true w hr0_0 hc0_0 hr0_1 hc0_1 hr1 hc1 hr2 hc2 h).mono ?_
 rintro e w' ⟨rfl, hd⟩
 exact ⟨rfl, hd⟩

end Go.Proofs.Ytoiaegbhnpddlaa.A
