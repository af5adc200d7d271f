/- Lean functions that answer as the Go functions do, and the proofs that they do; no conditions. Written by this session's own driver: a scratch copy of the kit's print with the session's additions (wip/xprint). -/
import Derived.Test.YtoiaegbhnpddlaaAx0
import Derived.Test.YtoiaegbhnpddlaaAx2
import Derived.Test.YtoiaegbhnpddlaaAx7
import Derived.Test.YtoiaegbhnpddlaaAx8
namespace Go.Proofs.Ytoiaegbhnpddlaa.A
open Go.RowKit Go.Proofs.YtoiaegbhnpddlaaW.PrintWords Go.Proofs.YtoiaegbhnpddlaaW.PrintLast Go.Proofs.YtoiaegbhnpddlaaW.PrintMore
attribute [local go_sem] max2_int min2_int max_two min_two max_three min_three max_four min_four   -- for this text's walks alone
set_option linter.unusedVariables false
set_option linter.unusedSimpArgs false

/-! ### fullerlaw03_TensorParts: function 7 -/
mutual
def fullerlaw03_TensorParts.j0 : Nat → List Int → List Int → Bool → Bool → List Int → List Int → Option (Bool)
 | 0, _, _, _, _, _, _ => none
 | k + 1, x1, x2, x7, x28, x559000, x559001 => if x28 = true then (some x7) else (fullerlaw03_TensorParts.l0 k x1 x2 x7 0 x559000 x559001)
def fullerlaw03_TensorParts.l0 : Nat → List Int → List Int → Bool → Int → List Int → List Int → Option (Bool)
 | 0, _, _, _, _, _, _ => none
 | k + 1, x1, x2, x7, x8, x559000, x559001 => if x8 < (x559001.length : Int) then (if 0 ≤ x8 then (if (rd x559001 x8) < (-1099511627776) then (some x7) else (if (rd x559001 x8) > 1099511627776 then (some x7) else (fullerlaw03_TensorParts.l0 k x1 x2 x7 (wrap64 (x8 + 1)) x559000 x559001))) else (none)) else ((tensor_Fold.f k x559000 x559001 x1).bind fun bt563 => ((tensor_Fold.f k bt563.1 bt563.2.1 x2).bind fun bt571 => ((tensor_Fold.f k x559000 x559001 x2).bind fun bt579 => (if bt563.2.2 = 0 then (fullerlaw03_TensorParts.j2 k x7 bt579.2.2 (bt571.2.2 != 0) bt571.1 bt571.2.1 bt579.1 bt579.2.1) else (fullerlaw03_TensorParts.j2 k x7 bt579.2.2 true bt571.1 bt571.2.1 bt579.1 bt579.2.1)))))
def fullerlaw03_TensorParts.j2 : Nat → Bool → Int → Bool → List Int → List Int → List Int → List Int → Option (Bool)
 | 0, _, _, _, _, _, _, _ => none
 | k + 1, x7, x14, x75, x579000, x579001, x587000, x587001 => if x75 = true then (some x7) else (if x7 = true then (if x14 = 0 then ((fullerref03_Same.f k x579000 x579001 x587000 x587001).bind fun t587 => (if t587 = true then ((tensor_Check.f k x579000 x579001).bind fun t588 => (some t588)) else (some false))) else (some false)) else (some false))
end
def fullerlaw03_TensorParts.f (k : Nat) (l0_0 : List Int) (l0_1 : List Int) (l1 : List Int) (l2 : List Int) : Option (Bool) := (fullerlaw03_awake.f k).bind fun t559 => ((fullerref03_Few.f l0_0 l0_1).bind fun t560 => (if t560 = true then (if (l1.length : Int) > 100 then (fullerlaw03_TensorParts.j0 k l1 l2 t559 true l0_0 l0_1) else (fullerlaw03_TensorParts.j0 k l1 l2 t559 (decide ((l2.length : Int) > 100)) l0_0 l0_1)) else (fullerlaw03_TensorParts.j0 k l1 l2 t559 true l0_0 l0_1)))
theorem fullerlaw03_TensorParts.mono_l : ∀ k, (∀ y0 y1 y2 y3 y4 y5, LeO (fullerlaw03_TensorParts.j0 k y0 y1 y2 y3 y4 y5) (fullerlaw03_TensorParts.j0 (k + 1) y0 y1 y2 y3 y4 y5)) ∧ (∀ y0 y1 y2 y3 y4 y5, LeO (fullerlaw03_TensorParts.l0 k y0 y1 y2 y3 y4 y5) (fullerlaw03_TensorParts.l0 (k + 1) y0 y1 y2 y3 y4 y5)) ∧ (∀ y0 y1 y2 y3 y4 y5 y6, LeO (fullerlaw03_TensorParts.j2 k y0 y1 y2 y3 y4 y5 y6) (fullerlaw03_TensorParts.j2 (k + 1) y0 y1 y2 y3 y4 y5 y6))
 | 0 => ⟨fun _ _ _ _ _ _ r h => by simp [fullerlaw03_TensorParts.j0] at h, fun _ _ _ _ _ _ r h => by simp [fullerlaw03_TensorParts.l0] at h, fun _ _ _ _ _ _ _ r h => by simp [fullerlaw03_TensorParts.j2] at h⟩
 | k + 1 => by
  obtain ⟨ih0, ih1, ih2⟩ := fullerlaw03_TensorParts.mono_l k
  refine ⟨?_, ?_, ?_⟩
  ·intro y0 y1 y2 y3 y4 y5
   unfold fullerlaw03_TensorParts.j0
   repeat' first
   | (with_reducible exact ih0 _ _ _ _ _ _)
   | (with_reducible exact ih1 _ _ _ _ _ _)
   | (with_reducible exact ih2 _ _ _ _ _ _ _)
   | (with_reducible exact fullerlaw03_awake.mono _)
   | (with_reducible exact fullerref03_Same.mono _ _ _ _ _)
   | (with_reducible exact tensor_Check.mono _ _ _)
   | (with_reducible exact tensor_Fold.mono _ _ _ _)
   | (with_reducible exact LeO.refl _)
   | (with_reducible exact LeO.none _)
   | (with_reducible refine LeO.ite ?_ ?_)
   | (with_reducible refine LeO.bind ?_ (fun _ => ?_))
   | exact ih0 _ _ _ _ _ _
   | exact ih1 _ _ _ _ _ _
   | exact ih2 _ _ _ _ _ _ _
   | exact fullerlaw03_awake.mono _
   | exact fullerref03_Same.mono _ _ _ _ _
   | exact tensor_Check.mono _ _ _
   | exact tensor_Fold.mono _ _ _ _
   | exact LeO.none _
   | refine LeO.ite ?_ ?_
   | refine LeO.bind ?_ (fun _ => ?_)
  ·intro y0 y1 y2 y3 y4 y5
   unfold fullerlaw03_TensorParts.l0
   repeat' first
   | (with_reducible exact ih0 _ _ _ _ _ _)
   | (with_reducible exact ih1 _ _ _ _ _ _)
   | (with_reducible exact ih2 _ _ _ _ _ _ _)
   | (with_reducible exact fullerlaw03_awake.mono _)
   | (with_reducible exact fullerref03_Same.mono _ _ _ _ _)
   | (with_reducible exact tensor_Check.mono _ _ _)
   | (with_reducible exact tensor_Fold.mono _ _ _ _)
   | (with_reducible exact LeO.refl _)
   | (with_reducible exact LeO.none _)
   | (with_reducible refine LeO.ite ?_ ?_)
   | (with_reducible refine LeO.bind ?_ (fun _ => ?_))
   | exact ih0 _ _ _ _ _ _
   | exact ih1 _ _ _ _ _ _
   | exact ih2 _ _ _ _ _ _ _
   | exact fullerlaw03_awake.mono _
   | exact fullerref03_Same.mono _ _ _ _ _
   | exact tensor_Check.mono _ _ _
   | exact tensor_Fold.mono _ _ _ _
   | exact LeO.none _
   | refine LeO.ite ?_ ?_
   | refine LeO.bind ?_ (fun _ => ?_)
  ·intro y0 y1 y2 y3 y4 y5 y6
   unfold fullerlaw03_TensorParts.j2
   repeat' first
   | (with_reducible exact ih0 _ _ _ _ _ _)
   | (with_reducible exact ih1 _ _ _ _ _ _)
   | (with_reducible exact ih2 _ _ _ _ _ _ _)
   | (with_reducible exact fullerlaw03_awake.mono _)
   | (with_reducible exact fullerref03_Same.mono _ _ _ _ _)
   | (with_reducible exact tensor_Check.mono _ _ _)
   | (with_reducible exact tensor_Fold.mono _ _ _ _)
   | (with_reducible exact LeO.refl _)
   | (with_reducible exact LeO.none _)
   | (with_reducible refine LeO.ite ?_ ?_)
   | (with_reducible refine LeO.bind ?_ (fun _ => ?_))
   | exact ih0 _ _ _ _ _ _
   | exact ih1 _ _ _ _ _ _
   | exact ih2 _ _ _ _ _ _ _
   | exact fullerlaw03_awake.mono _
   | exact fullerref03_Same.mono _ _ _ _ _
   | exact tensor_Check.mono _ _ _
   | exact tensor_Fold.mono _ _ _ _
   | exact LeO.none _
   | refine LeO.ite ?_ ?_
   | refine LeO.bind ?_ (fun _ => ?_)
theorem fullerlaw03_TensorParts.mono : ∀ a0 a1 a2 a3 k, LeO (fullerlaw03_TensorParts.f k a0 a1 a2 a3) (fullerlaw03_TensorParts.f (k + 1) a0 a1 a2 a3) := by
 intro a0 a1 a2 a3 k
 obtain ⟨ih0, ih1, ih2⟩ := fullerlaw03_TensorParts.mono_l k
 unfold fullerlaw03_TensorParts.f
 repeat' first
   | (with_reducible exact ih0 _ _ _ _ _ _)
   | (with_reducible exact ih1 _ _ _ _ _ _)
   | (with_reducible exact ih2 _ _ _ _ _ _ _)
   | (with_reducible exact fullerlaw03_awake.mono _)
   | (with_reducible exact fullerref03_Same.mono _ _ _ _ _)
   | (with_reducible exact tensor_Check.mono _ _ _)
   | (with_reducible exact tensor_Fold.mono _ _ _ _)
   | (with_reducible exact LeO.refl _)
   | (with_reducible exact LeO.none _)
   | (with_reducible refine LeO.ite ?_ ?_)
   | (with_reducible refine LeO.bind ?_ (fun _ => ?_))
   | exact ih0 _ _ _ _ _ _
   | exact ih1 _ _ _ _ _ _
   | exact ih2 _ _ _ _ _ _ _
   | exact fullerlaw03_awake.mono _
   | exact fullerref03_Same.mono _ _ _ _ _
   | exact tensor_Check.mono _ _ _
   | exact tensor_Fold.mono _ _ _ _
   | exact LeO.none _
   | refine LeO.ite ?_ ?_
   | refine LeO.bind ?_ (fun _ => ?_)
set_option maxHeartbeats 8000000 in
set_option maxRecDepth 100000 in
theorem fullerlaw03_TensorParts.calls (k : Nat) (A0_0 : Option Addr) (c0_0 : Nat) (l0_0 : List Int) (A0_1 : Option Addr) (c0_1 : Nat) (l0_1 : List Int) (A1 : Option Addr) (c1 : Nat) (l1 : List Int) (A2 : Option Addr) (c2 : Nat) (l2 : List Int) (r : Bool) (w : World) (hr0_0 : Kd.C (Kd.int .i64) w A0_0 l0_0.length l0_0) (hc0_0 : l0_0.length ≤ c0_0) (hr0_1 : Kd.C (Kd.int .i64) w A0_1 l0_1.length l0_1) (hc0_1 : l0_1.length ≤ c0_1) (hr1 : Kd.C (Kd.int .i64) w A1 l1.length l1) (hc1 : l1.length ≤ c1) (hr2 : Kd.C (Kd.int .i64) w A2 l2.length l2) (hc2 : l2.length ≤ c2) (h : fullerlaw03_TensorParts.f k l0_0 l0_1 l1 l2 = some r) :
  Calls Try.prog 7 #[.agg #[.slice A0_0 l0_0.length c0_0, .slice A0_1 l0_1.length c0_1], .slice A1 l1.length c1, .slice A2 l2.length c2] w fun e w' => e = .returned (.bool r) ∧ Below w.heap.size w w' := by
 have hu24 := Try.underlying24
 have HR0_0 := Aside0.mk hr0_0
 have HC0_0 := Aside0.mk hc0_0
 clear hr0_0 hc0_0
 have HR0_1 := Aside0.mk hr0_1
 have HC0_1 := Aside0.mk hc0_1
 clear hr0_1 hc0_1
 have HR1 := Aside0.mk hr1
 have HC1 := Aside0.mk hc1
 clear hr1 hc1
 have HR2 := Aside0.mk hr2
 have HC2 := Aside0.mk hc2
 clear hr2 hc2
 have HB := Aside0.mk (Below.refl w.heap.size w)
 have H : ((fullerlaw03_awake.f k).bind fun t559 => ((fullerref03_Few.f l0_0 l0_1).bind fun t560 => (if t560 = true then (if (l1.length : Int) > 100 then (fullerlaw03_TensorParts.j0 k l1 l2 t559 true l0_0 l0_1) else (fullerlaw03_TensorParts.j0 k l1 l2 t559 (decide ((l2.length : Int) > 100)) l0_0 l0_1)) else (fullerlaw03_TensorParts.j0 k l1 l2 t559 true l0_0 l0_1)))) = some r := h
 clear h
 replace H := Option.bind_eq_some_iff.mp H
 obtain ⟨t559, A40, H⟩ := H
 replace H : ((fullerref03_Few.f l0_0 l0_1).bind fun t560 => (if t560 = true then (if (l1.length : Int) > 100 then (fullerlaw03_TensorParts.j0 k l1 l2 t559 true l0_0 l0_1) else (fullerlaw03_TensorParts.j0 k l1 l2 t559 (decide ((l2.length : Int) > 100)) l0_0 l0_1)) else (fullerlaw03_TensorParts.j0 k l1 l2 t559 true l0_0 l0_1))) = some r := H
 have A4 := Aside0.mk A40
 clear A40
 have HC5 := Aside0.mk H
 clear H
 go_enter Try.func7, Try.ntmps7
 go_upto_region 2 with (first | ((with_reducible refine gate_dst (N := 3) rfl ?_); (try (refine gate_guard (by rfl) ?_; dsimp only)); refine box_event ?hg (N := 3) ?hd (cs := #[.slice A0_0 l0_0.length c0_0, .slice A0_1 l0_1.length c0_1]) (t := 24) ?hr ?_; (case hd => rfl); (case hg => rfl); (case hr => first | (go_simp; done) | (go_simp; rfl)); intro gb558 hg w6 hbox hb; have n0_ := Aside0.mk (below_step (bq0_ HB.out) hb); have n1_ := Aside0.mk (hbox); have n2_ := Aside0.mk ((by rw [hg]; exact (below_size (bq0_ HB.out)) : w.heap.size ≤ gb558)); have n3_ := Aside0.mk ((by rw [hg]; exact (below_size (bq0_ HB.out)) : w.heap.size ≤ gb558)); clear HB; have HB := n0_; have BK558 := n1_; have GW558 := n2_; have GE558 := n3_; clear n0_ n1_ n2_ n3_; clear hb hbox hg) | ((with_reducible refine gate_callee (f := 9) rfl ?_); refine goesL_ (some 15) rfl rfl Try.func9 (by kernel_rfl) rfl #[] rfl (by (try simp only [List.map_toArray, List.map_cons, List.map_nil]); first | done | rfl | (simp only [List.length_drop, List.length_take]; rfl)) ?_; (with_reducible refine (fullerlaw03_awake.calls k  t559 _ A4.out).mono ?_); rintro e w7 ⟨rfl, hb⟩; refine ⟨_, rfl, ?_⟩; have n0_ := Aside0.mk (blk_below (g := gb558) (o := .cells #[.slice A0_0 l0_0.length c0_0, .slice A0_1 l0_1.length c0_1] 24 (0, 0)) (mvK_ BK558.out) hb); have n1_ := Aside0.mk (below_step (bq1_ HB.out GE558.out) hb); clear BK558; clear HB; have BK558 := n0_; have HB := n1_; clear n0_ n1_; (try clear hb)))
 (try simp only [Act.put, sA_, sB_, sC_])
 go_cut [28] (fun v28 wc => ∃ (kq : Nat) (x28_4 : Bool), v28 = .bool x28_4 ∧ Aside0 (fullerlaw03_TensorParts.j0 kq l1 l2 t559 x28_4 l0_0 l0_1 = some r) ∧ Aside0 (kq ≤ k) ∧ Aside0 (wc.heap[gb558]? = some (.cells #[(.slice A0_0 l0_0.length c0_0), (.slice A0_1 l0_1.length c0_1)] 24 (0, 0))) ∧ Aside0 (Below w.heap.size w wc))
 case first =>
  have H := HC5.out
  clear HC5
  replace H := Option.bind_eq_some_iff.mp H
  obtain ⟨t560, A80, H⟩ := H
  replace H : (if t560 = true then (if (l1.length : Int) > 100 then (fullerlaw03_TensorParts.j0 k l1 l2 t559 true l0_0 l0_1) else (fullerlaw03_TensorParts.j0 k l1 l2 t559 (decide ((l2.length : Int) > 100)) l0_0 l0_1)) else (fullerlaw03_TensorParts.j0 k l1 l2 t559 true l0_0 l0_1)) = some r := H
  have A8 := Aside0.mk A80
  clear A80
  by_cases c9 : t560 = true
  ·subst c9
   have H1 : (if (l1.length : Int) > 100 then (fullerlaw03_TensorParts.j0 k l1 l2 t559 true l0_0 l0_1) else (fullerlaw03_TensorParts.j0 k l1 l2 t559 (decide ((l2.length : Int) > 100)) l0_0 l0_1)) = some r := by rw [if_pos rfl] at H; exact H
   clear H
   have H := H1
   clear H1
   by_cases c10 : (l1.length : Int) > 100
   ·rw [if_pos c10] at H
    have c10b0 : decide (100 < (l1.length : Int)) = true := decide_eq_true c10
    have c10b1 : decide (100 < l1.length) = true := decide_eq_true (by omega)
    clear c10
    (first | rw [c10b0] | (simp only [i64_w, i32_w]; rw [c10b0]) | skip)
    have H' := Aside0.mk H
    clear H
    have hcz11_0 : w7.cell? ⟨gb558, 0, none⟩ = some (.slice A0_0 l0_0.length c0_0) := (blk_cell BK558.out 0).trans rfl
    have hcz11_1 : w7.cell? ⟨gb558, 1, none⟩ = some (.slice A0_1 l0_1.length c0_1) := (blk_cell BK558.out 1).trans rfl
    have hfz11_0 := blk_frozen BK558.out 0
    have hfz11_1 := blk_frozen BK558.out 1
    go_wp2_with (first | ((with_reducible refine gate_callee (f := 10) rfl ?_); refine goesL_ (some 17) rfl rfl Try.func10 (by kernel_rfl) rfl #[.agg #[.slice A0_0 l0_0.length c0_0, .slice A0_1 l0_1.length c0_1]] rfl (by (try simp only [List.map_toArray, List.map_cons, List.map_nil]); first | done | rfl | (simp only [List.length_drop, List.length_take]; rfl)) ?_; (with_reducible refine (fullerref03_Few.calls _ _ l0_0 _ _ l0_1 true _ ?side1 ?side2 ?side3 ?side4 A8.out).mono ?_); (case side1 => exact mvC_ ((Kd.C_below HR0_0.out HB.out))); (case side2 => exact HC0_0.out); (case side3 => exact mvC_ ((Kd.C_below HR0_1.out HB.out))); (case side4 => exact HC0_1.out); rintro e w12 ⟨rfl, hb⟩; refine ⟨_, rfl, ?_⟩; have n0_ := Aside0.mk (blk_below (g := gb558) (o := .cells #[.slice A0_0 l0_0.length c0_0, .slice A0_1 l0_1.length c0_1] 24 (0, 0)) (mvK_ BK558.out) hb); have n1_ := Aside0.mk (below_step (bq1_ HB.out GE558.out) hb); clear BK558; clear HB; have BK558 := n0_; have HB := n1_; clear n0_ n1_; (try clear hb)))
    go_meet
    case rel => exact ⟨_, (true), (by first | rfl | (simp; done) | (simp [*]; done)), H', ⟨by first | omega | exact Nat.le_refl _⟩, ⟨by (with_reducible repeat (first | refine blk_drewN ?_ _ | refine blk_drew ?_ | refine blk_alloc ?_ _)); exact BK558.out⟩, ⟨by repeat (first | (with_reducible first | exact HB.out | apply below_alloc | apply pw_below_drewN | apply below_drew1 | refine below_set ?_ GE558.out) | exact HB.out)⟩⟩
   ·rw [if_neg c10] at H
    have c10b0 : decide (100 < (l1.length : Int)) = false := decide_eq_false c10
    have c10b1 : decide (100 < l1.length) = false := decide_eq_false (by omega)
    clear c10
    (first | rw [c10b0] | (simp only [i64_w, i32_w]; rw [c10b0]) | skip)
    have H' := Aside0.mk H
    clear H
    have hcz13_0 : w7.cell? ⟨gb558, 0, none⟩ = some (.slice A0_0 l0_0.length c0_0) := (blk_cell BK558.out 0).trans rfl
    have hcz13_1 : w7.cell? ⟨gb558, 1, none⟩ = some (.slice A0_1 l0_1.length c0_1) := (blk_cell BK558.out 1).trans rfl
    have hfz13_0 := blk_frozen BK558.out 0
    have hfz13_1 := blk_frozen BK558.out 1
    go_wp2_with (first | ((with_reducible refine gate_callee (f := 10) rfl ?_); refine goesL_ (some 17) rfl rfl Try.func10 (by kernel_rfl) rfl #[.agg #[.slice A0_0 l0_0.length c0_0, .slice A0_1 l0_1.length c0_1]] rfl (by (try simp only [List.map_toArray, List.map_cons, List.map_nil]); first | done | rfl | (simp only [List.length_drop, List.length_take]; rfl)) ?_; (with_reducible refine (fullerref03_Few.calls _ _ l0_0 _ _ l0_1 true _ ?side1 ?side2 ?side3 ?side4 A8.out).mono ?_); (case side1 => exact mvC_ ((Kd.C_below HR0_0.out HB.out))); (case side2 => exact HC0_0.out); (case side3 => exact mvC_ ((Kd.C_below HR0_1.out HB.out))); (case side4 => exact HC0_1.out); rintro e w14 ⟨rfl, hb⟩; refine ⟨_, rfl, ?_⟩; have n0_ := Aside0.mk (blk_below (g := gb558) (o := .cells #[.slice A0_0 l0_0.length c0_0, .slice A0_1 l0_1.length c0_1] 24 (0, 0)) (mvK_ BK558.out) hb); have n1_ := Aside0.mk (below_step (bq1_ HB.out GE558.out) hb); clear BK558; clear HB; have BK558 := n0_; have HB := n1_; clear n0_ n1_; (try clear hb)))
    go_meet
    case rel => exact ⟨_, (decide ((l2.length : Int) > 100)), (by first | rfl | (simp; done) | (simp [*]; done)), H', ⟨by first | omega | exact Nat.le_refl _⟩, ⟨by (with_reducible repeat (first | refine blk_drewN ?_ _ | refine blk_drew ?_ | refine blk_alloc ?_ _)); exact BK558.out⟩, ⟨by repeat (first | (with_reducible first | exact HB.out | apply below_alloc | apply pw_below_drewN | apply below_drew1 | refine below_set ?_ GE558.out) | exact HB.out)⟩⟩
  ·replace c9 := Bool.eq_false_iff.mpr c9
   subst c9
   have H1 : (fullerlaw03_TensorParts.j0 k l1 l2 t559 true l0_0 l0_1) = some r := by rw [if_neg (show ¬ (false = true) by decide)] at H; exact H
   clear H
   have H := H1
   clear H1
   have H' := Aside0.mk H
   clear H
   have hcz15_0 : w7.cell? ⟨gb558, 0, none⟩ = some (.slice A0_0 l0_0.length c0_0) := (blk_cell BK558.out 0).trans rfl
   have hcz15_1 : w7.cell? ⟨gb558, 1, none⟩ = some (.slice A0_1 l0_1.length c0_1) := (blk_cell BK558.out 1).trans rfl
   have hfz15_0 := blk_frozen BK558.out 0
   have hfz15_1 := blk_frozen BK558.out 1
   go_wp2_with (first | ((with_reducible refine gate_callee (f := 10) rfl ?_); refine goesL_ (some 17) rfl rfl Try.func10 (by kernel_rfl) rfl #[.agg #[.slice A0_0 l0_0.length c0_0, .slice A0_1 l0_1.length c0_1]] rfl (by (try simp only [List.map_toArray, List.map_cons, List.map_nil]); first | done | rfl | (simp only [List.length_drop, List.length_take]; rfl)) ?_; (with_reducible refine (fullerref03_Few.calls _ _ l0_0 _ _ l0_1 false _ ?side1 ?side2 ?side3 ?side4 A8.out).mono ?_); (case side1 => exact mvC_ ((Kd.C_below HR0_0.out HB.out))); (case side2 => exact HC0_0.out); (case side3 => exact mvC_ ((Kd.C_below HR0_1.out HB.out))); (case side4 => exact HC0_1.out); rintro e w16 ⟨rfl, hb⟩; refine ⟨_, rfl, ?_⟩; have n0_ := Aside0.mk (blk_below (g := gb558) (o := .cells #[.slice A0_0 l0_0.length c0_0, .slice A0_1 l0_1.length c0_1] 24 (0, 0)) (mvK_ BK558.out) hb); have n1_ := Aside0.mk (below_step (bq1_ HB.out GE558.out) hb); clear BK558; clear HB; have BK558 := n0_; have HB := n1_; clear n0_ n1_; (try clear hb)))
   go_meet
   case rel => exact ⟨_, (true), (by first | rfl | (simp; done) | (simp [*]; done)), H', ⟨by first | omega | exact Nat.le_refl _⟩, ⟨by (with_reducible repeat (first | refine blk_drewN ?_ _ | refine blk_drew ?_ | refine blk_alloc ?_ _)); exact BK558.out⟩, ⟨by repeat (first | (with_reducible first | exact HB.out | apply below_alloc | apply pw_below_drewN | apply below_drew1 | refine below_set ?_ GE558.out) | exact HB.out)⟩⟩
 case rest =>
  clear HC5
  try clear c1
  try clear c2
  try clear p2
  try clear c7
  try clear c9
  try clear c10
  try clear c10b0
  try clear c10b1
  try clear hcz11_0
  try clear hcz11_1
  try clear hcz13_0
  try clear hcz13_1
  try clear hcz15_0
  try clear hcz15_1
  try clear hfz11_0
  try clear hfz11_1
  try clear hfz13_0
  try clear hfz13_1
  try clear hfz15_0
  try clear hfz15_1
  obtain ⟨kq, x28_4, rfl, HA, HJ4, BK558, HB⟩ := hcut
  cases kq with
  | zero => exact absurd HA.out (by simp [fullerlaw03_TensorParts.j0])
  | succ kj4 =>
   have H := HA.out
   clear HA
   simp only [fullerlaw03_TensorParts.j0] at H
   by_cases c17 : x28_4 = true
   ·subst c17
    have H1 : (some t559) = some r := by rw [if_pos rfl] at H; exact H
    clear H
    have H := H1
    clear H1
    obtain rfl := Option.some.inj H
    go_wp2
    go_ret
    exact ⟨by first | rfl | (simp [errW_none, errW_some] <;> rfl) | (simp [*, errW_none, errW_some] <;> rfl), by repeat (first | (with_reducible first | exact HB.out | apply below_alloc | apply pw_below_drewN | apply below_drew1 | refine below_set ?_ GE558.out) | exact HB.out)⟩
   ·replace c17 := Bool.eq_false_iff.mpr c17
    subst c17
    have H1 : (fullerlaw03_TensorParts.l0 kj4 l1 l2 t559 0 l0_0 l0_1) = some r := by rw [if_neg (show ¬ (false = true) by decide)] at H; exact H
    clear H
    have H := H1
    clear H1
    have H' := Aside0.mk H
    clear H
    go_wp2
    go_loopg [8] kj4 (fun kq v8 w' => ∃ (x8_2 : Int), v8 = .int .i64 x8_2 ∧ Aside0 (fullerlaw03_TensorParts.l0 kq l1 l2 t559 x8_2 l0_0 l0_1 = some r) ∧ Aside0 (kq ≤ kj4) ∧ Aside0 (w'.heap[gb558]? = some (.cells #[(.slice A0_0 l0_0.length c0_0), (.slice A0_1 l0_1.length c0_1)] 24 (0, 0))) ∧ Aside0 (Below w.heap.size w w'))
    case atStart => exact ⟨(0), (by first | rfl | (simp; done) | (simp [*]; done)), H', ⟨Nat.le_refl _⟩, ⟨by (with_reducible repeat (first | refine blk_drewN ?_ _ | refine blk_drew ?_ | refine blk_alloc ?_ _)); exact BK558.out⟩, ⟨by repeat (first | (with_reducible first | exact HB.out | apply below_alloc | apply pw_below_drewN | apply below_drew1 | refine below_set ?_ GE558.out) | exact HB.out)⟩⟩
    case round =>
     clear H'
     try clear c1
     try clear c2
     try clear p2
     try clear c7
     try clear c9
     try clear c10
     try clear c10b0
     try clear c10b1
     try clear c17
     try clear hcz11_0
     try clear hcz11_1
     try clear hcz13_0
     try clear hcz13_1
     try clear hcz15_0
     try clear hcz15_1
     try clear hfz11_0
     try clear hfz11_1
     try clear hfz13_0
     try clear hfz13_1
     try clear hfz15_0
     try clear hfz15_1
     try clear p2
     obtain ⟨x8_2, rfl, HA, HK2, BK558, HB⟩ := hrel
     cases gk with
     | zero => exact absurd HA.out (by simp [fullerlaw03_TensorParts.l0])
     | succ k2 =>
      have H := HA.out
      clear HA
      simp only [fullerlaw03_TensorParts.l0] at H
      by_cases c18 : x8_2 < (l0_1.length : Int)
      ·rw [if_pos c18] at H
       have c18b0 : decide (x8_2 < (l0_1.length : Int)) = true := decide_eq_true c18
       clear c18
       by_cases c19 : 0 ≤ x8_2
       ·rw [if_pos c19] at H
        have c19b0 : decide (0 ≤ x8_2) = true := decide_eq_true c19
        clear c19
        by_cases c20 : (rd l0_1 x8_2) < (-1099511627776)
        ·rw [if_pos c20] at H
         have c20b0 : decide ((rd l0_1 x8_2) < (-1099511627776)) = true := decide_eq_true c20
         clear c20
         obtain rfl := Option.some.inj H
         have hcz21_0 : wr.cell? ⟨gb558, 0, none⟩ = some (.slice A0_0 l0_0.length c0_0) := (blk_cell BK558.out 0).trans rfl
         have hcz21_1 : wr.cell? ⟨gb558, 1, none⟩ = some (.slice A0_1 l0_1.length c0_1) := (blk_cell BK558.out 1).trans rfl
         have hfz21_0 := blk_frozen BK558.out 0
         have hfz21_1 := blk_frozen BK558.out 1
         have p561 : 0 ≤ (x8_2 : Int) := od_
         have q561 : x8_2 < (l0_1.length : Int) := od_
         obtain ⟨ad561, e561, hx561_0⟩ := Kd.at_int HR0_1.out x8_2 p561 q561
         cases e561
         replace hx561_0 := (HB.out.cell (World.block_lt_of_cell? w _ hx561_0)).trans hx561_0
         replace p561 := eq_true p561
         replace q561 := eq_true q561
         go_wp2
         go_ret
         exact ⟨by first | rfl | (simp [errW_none, errW_some] <;> rfl) | (simp [*, errW_none, errW_some] <;> rfl), by repeat (first | (with_reducible first | exact HB.out | apply below_alloc | apply pw_below_drewN | apply below_drew1 | refine below_set ?_ GE558.out) | exact HB.out)⟩
        ·rw [if_neg c20] at H
         have c20b0 : decide ((rd l0_1 x8_2) < (-1099511627776)) = false := decide_eq_false c20
         clear c20
         by_cases c22 : (rd l0_1 x8_2) > 1099511627776
         ·rw [if_pos c22] at H
          have c22b0 : decide (1099511627776 < (rd l0_1 x8_2)) = true := decide_eq_true c22
          clear c22
          obtain rfl := Option.some.inj H
          have hcz23_0 : wr.cell? ⟨gb558, 0, none⟩ = some (.slice A0_0 l0_0.length c0_0) := (blk_cell BK558.out 0).trans rfl
          have hcz23_1 : wr.cell? ⟨gb558, 1, none⟩ = some (.slice A0_1 l0_1.length c0_1) := (blk_cell BK558.out 1).trans rfl
          have hfz23_0 := blk_frozen BK558.out 0
          have hfz23_1 := blk_frozen BK558.out 1
          have p561 : 0 ≤ (x8_2 : Int) := od_
          have q561 : x8_2 < (l0_1.length : Int) := od_
          obtain ⟨ad561, e561, hx561_0⟩ := Kd.at_int HR0_1.out x8_2 p561 q561
          cases e561
          replace hx561_0 := (HB.out.cell (World.block_lt_of_cell? w _ hx561_0)).trans hx561_0
          replace p561 := eq_true p561
          replace q561 := eq_true q561
          have p562 : 0 ≤ (x8_2 : Int) := od_
          have q562 : x8_2 < (l0_1.length : Int) := od_
          obtain ⟨ad562, e562, hx562_0⟩ := Kd.at_int HR0_1.out x8_2 p562 q562
          obtain rfl : ad561 = ad562 := (by injection e562)
          replace hx562_0 := (HB.out.cell (World.block_lt_of_cell? w _ hx562_0)).trans hx562_0
          replace p562 := eq_true p562
          replace q562 := eq_true q562
          go_wp2
          go_ret
          exact ⟨by first | rfl | (simp [errW_none, errW_some] <;> rfl) | (simp [*, errW_none, errW_some] <;> rfl), by repeat (first | (with_reducible first | exact HB.out | apply below_alloc | apply pw_below_drewN | apply below_drew1 | refine below_set ?_ GE558.out) | exact HB.out)⟩
         ·rw [if_neg c22] at H
          have c22b0 : decide (1099511627776 < (rd l0_1 x8_2)) = false := decide_eq_false c22
          clear c22
          have H' := Aside0.mk H
          clear H
          have hcz24_0 : wr.cell? ⟨gb558, 0, none⟩ = some (.slice A0_0 l0_0.length c0_0) := (blk_cell BK558.out 0).trans rfl
          have hcz24_1 : wr.cell? ⟨gb558, 1, none⟩ = some (.slice A0_1 l0_1.length c0_1) := (blk_cell BK558.out 1).trans rfl
          have hfz24_0 := blk_frozen BK558.out 0
          have hfz24_1 := blk_frozen BK558.out 1
          have p561 : 0 ≤ (x8_2 : Int) := od_
          have q561 : x8_2 < (l0_1.length : Int) := od_
          obtain ⟨ad561, e561, hx561_0⟩ := Kd.at_int HR0_1.out x8_2 p561 q561
          cases e561
          replace hx561_0 := (HB.out.cell (World.block_lt_of_cell? w _ hx561_0)).trans hx561_0
          replace p561 := eq_true p561
          replace q561 := eq_true q561
          have p562 : 0 ≤ (x8_2 : Int) := od_
          have q562 : x8_2 < (l0_1.length : Int) := od_
          obtain ⟨ad562, e562, hx562_0⟩ := Kd.at_int HR0_1.out x8_2 p562 q562
          obtain rfl : ad561 = ad562 := (by injection e562)
          replace hx562_0 := (HB.out.cell (World.block_lt_of_cell? w _ hx562_0)).trans hx562_0
          replace p562 := eq_true p562
          replace q562 := eq_true q562
          go_wp2
          go_roundg k2
          case measure => have := HJ4.out; have := HK2.out; omega
          case rel => exact ⟨(wrap64 (x8_2 + 1)), (by first | rfl | (simp; done) | (simp [*]; done)), H', ⟨by have := HJ4.out; have := HK2.out; omega⟩, ⟨by (with_reducible repeat (first | refine blk_drewN ?_ _ | refine blk_drew ?_ | refine blk_alloc ?_ _)); exact BK558.out⟩, ⟨by repeat (first | (with_reducible first | exact HB.out | apply below_alloc | apply pw_below_drewN | apply below_drew1 | refine below_set ?_ GE558.out) | exact HB.out)⟩⟩
       ·rw [if_neg c19] at H
        exact absurd H (by simp)
      ·rw [if_neg c18] at H
       have c18b0 : decide (x8_2 < (l0_1.length : Int)) = false := decide_eq_false c18
       clear c18
       replace H := Option.bind_eq_some_iff.mp H
       obtain ⟨⟨t563, t566, t569⟩, A250, H⟩ := H
       replace H : ((tensor_Fold.f k2 t563 t566 l2).bind fun bt571 => ((tensor_Fold.f k2 l0_0 l0_1 l2).bind fun bt579 => (if t569 = 0 then (fullerlaw03_TensorParts.j2 k2 t559 bt579.2.2 (bt571.2.2 != 0) bt571.1 bt571.2.1 bt579.1 bt579.2.1) else (fullerlaw03_TensorParts.j2 k2 t559 bt579.2.2 true bt571.1 bt571.2.1 bt579.1 bt579.2.1)))) = some r := H
       have A25 := Aside0.mk A250
       clear A250
       replace H := Option.bind_eq_some_iff.mp H
       obtain ⟨⟨t571, t574, t577⟩, A260, H⟩ := H
       replace H : ((tensor_Fold.f k2 l0_0 l0_1 l2).bind fun bt579 => (if t569 = 0 then (fullerlaw03_TensorParts.j2 k2 t559 bt579.2.2 (t577 != 0) t571 t574 bt579.1 bt579.2.1) else (fullerlaw03_TensorParts.j2 k2 t559 bt579.2.2 true t571 t574 bt579.1 bt579.2.1))) = some r := H
       have A26 := Aside0.mk A260
       clear A260
       replace H := Option.bind_eq_some_iff.mp H
       obtain ⟨⟨t579, t582, t585⟩, A270, H⟩ := H
       replace H : (if t569 = 0 then (fullerlaw03_TensorParts.j2 k2 t559 t585 (t577 != 0) t571 t574 t579 t582) else (fullerlaw03_TensorParts.j2 k2 t559 t585 true t571 t574 t579 t582)) = some r := H
       have A27 := Aside0.mk A270
       clear A270
       have HC28 := Aside0.mk H
       clear H
       have hcz29_0 : wr.cell? ⟨gb558, 0, none⟩ = some (.slice A0_0 l0_0.length c0_0) := (blk_cell BK558.out 0).trans rfl
       have hcz29_1 : wr.cell? ⟨gb558, 1, none⟩ = some (.slice A0_1 l0_1.length c0_1) := (blk_cell BK558.out 1).trans rfl
       have hfz29_0 := blk_frozen BK558.out 0
       have hfz29_1 := blk_frozen BK558.out 1
       go_upto_region 12 with (first | ((with_reducible refine gate_callee (f := 18) rfl ?_); refine goesL_ (some 55) rfl rfl Try.func18 (by kernel_rfl) rfl #[.agg #[.slice A0_0 l0_0.length c0_0, .slice A0_1 l0_1.length c0_1], .slice A1 l1.length c1] rfl (by (try simp only [List.map_toArray, List.map_cons, List.map_nil]); first | done | rfl | (simp only [List.length_drop, List.length_take]; rfl)) ?_; (with_reducible refine (tensor_Fold.calls k2 _ _ l0_0 _ _ l0_1 _ _ l1 t563 t566 t569 _ ?side1 ?side2 ?side3 ?side4 ?side5 ?side6 A25.out).mono ?_); (case side1 => exact mvC_ ((Kd.C_below HR0_0.out HB.out))); (case side2 => exact HC0_0.out); (case side3 => exact mvC_ ((Kd.C_below HR0_1.out HB.out))); (case side4 => exact HC0_1.out); (case side5 => exact mvC_ ((Kd.C_below HR1.out HB.out))); (case side6 => exact HC1.out); rintro e w30 ⟨v564, v567, rfl, ho0, ho1, hb⟩; refine ⟨_, rfl, ?_⟩; have n0_ := Aside0.mk (Kd.R_lower ho0 (below_size (bq1_ HB.out GE558.out))); have n1_ := Aside0.mk (Kd.R_lower ho1 (below_size (bq1_ HB.out GE558.out))); have n2_ := Aside0.mk (blk_below (g := gb558) (o := .cells #[.slice A0_0 l0_0.length c0_0, .slice A0_1 l0_1.length c0_1] 24 (0, 0)) (mvK_ BK558.out) hb); have n3_ := Aside0.mk (below_step (bq1_ HB.out GE558.out) hb); clear BK558; clear HB; have HO565 := n0_; have HO568 := n1_; have BK558 := n2_; have HB := n3_; clear n0_ n1_ n2_ n3_; (try clear hb); (try clear ho0); (try clear ho1)) | ((with_reducible refine gate_dst (N := 9) rfl ?_); (try (refine gate_guard (by rfl) ?_; dsimp only)); refine box_event ?hg (N := 9) ?hd (cs := #[.slice none 0 0, .slice none 0 0]) (t := 24) ?hr ?_; (case hd => rfl); (case hg => rfl); (case hr => first | (go_simp; done) | (go_simp; rfl)); intro gb570 hg w31 hbox hb; have n0_ := Aside0.mk (Kd.R_below (mvR_ HO565.out) hb); have n1_ := Aside0.mk (Kd.R_below (mvR_ HO568.out) hb); have n2_ := Aside0.mk (blk_below (g := gb558) (o := .cells #[.slice A0_0 l0_0.length c0_0, .slice A0_1 l0_1.length c0_1] 24 (0, 0)) (mvK_ BK558.out) hb); have n3_ := Aside0.mk (below_step (bq1_ HB.out GE558.out) hb); have n4_ := Aside0.mk (hbox); have n5_ := Aside0.mk ((by rw [hg]; exact (below_size (bq1_ HB.out GE558.out)) : w.heap.size ≤ gb570)); have n6_ := Aside0.mk ((by rw [hg]; exact (below_size (bq1_ HB.out GE558.out)) : w.heap.size ≤ gb570)); have n7_ := Aside0.mk ((by rw [hg]; exact Nat.ne_of_lt (blk_lt (g := gb558) (o := .cells #[.slice A0_0 l0_0.length c0_0, .slice A0_1 l0_1.length c0_1] 24 (0, 0)) (mvK_ BK558.out)) : gb558 ≠ gb570)); have n8_ := Aside0.mk ((by rw [hg]; exact Nat.ne_of_gt (blk_lt (g := gb558) (o := .cells #[.slice A0_0 l0_0.length c0_0, .slice A0_1 l0_1.length c0_1] 24 (0, 0)) (mvK_ BK558.out)) : gb570 ≠ gb558)); clear HO565; clear HO568; clear BK558; clear HB; have HO565 := n0_; have HO568 := n1_; have BK558 := n2_; have HB := n3_; have BK570 := n4_; have GW570 := n5_; have GE570 := n6_; have NB558_570 := n7_; have NB570_558 := n8_; clear n0_ n1_ n2_ n3_ n4_ n5_ n6_ n7_ n8_; clear hb hbox hg; obtain ⟨Ao32, co32, eo32⟩ := Kd.R_slice HO565.out; subst eo32; have hnb33 := NB570_558.out; have hnc33 := NB558_570.out; have hcz34_0 : w31.cell? ⟨gb570, 0, none⟩ = some (.slice none 0 0) := (blk_cell BK570.out 0).trans rfl; have hcz34_1 : w31.cell? ⟨gb570, 1, none⟩ = some (.slice none 0 0) := (blk_cell BK570.out 1).trans rfl; have hfz34_0 := blk_frozen BK570.out 0; have hfz34_1 := blk_frozen BK570.out 1; obtain ⟨Ao35, co35, eo35⟩ := Kd.R_slice HO568.out; subst eo35) | ((with_reducible refine gate_callee (f := 18) rfl ?_); refine goesL_ (some 61) rfl rfl Try.func18 (by kernel_rfl) rfl #[.agg #[.slice Ao32 t563.length co32, .slice Ao35 t566.length co35], .slice A2 l2.length c2] rfl (by (try simp only [List.map_toArray, List.map_cons, List.map_nil]); first | done | rfl | (simp only [List.length_drop, List.length_take]; rfl)) ?_; (with_reducible refine (tensor_Fold.calls k2 _ _ t563 _ _ t566 _ _ l2 t571 t574 t577 _ ?side1 ?side2 ?side3 ?side4 ?side5 ?side6 A26.out).mono ?_); (case side1 => refine (Kd.R_reads' (e := 3) (base := w.heap.size) (ok := fun k_ => some k_ ≠ (.slice Ao35 t566.length co35 : Value).ownBlock) (n := t563.length) (c := co32) ?_).2.2; exact (by (with_reducible repeat (first | apply Kd.R_alloc | apply Kd.R_drewN | apply Kd.R_drew)); exact (Kd.R_mono (Kd.R_far (p := ⟨gb570, 1, none⟩) (Kd.R_far (p := ⟨gb570, 0, none⟩) (Kd.R_types HO565.out BK570.out (by decide)) (fun _ hk => hk.2) (.slice Ao32 t563.length co32)) (fun _ hk => hk.2) (.slice Ao35 t566.length co35)) (fun _ h_ => h_.1)))); (case side2 => exact (Kd.R_reads' HO565.out).2.1); (case side3 => refine (Kd.R_reads' (e := 3) (base := w.heap.size) (ok := fun k_ => some k_ ≠ (.slice Ao32 t563.length co32 : Value).ownBlock) (n := t566.length) (c := co35) ?_).2.2; exact (by (with_reducible repeat (first | apply Kd.R_alloc | apply Kd.R_drewN | apply Kd.R_drew)); exact (Kd.R_mono (Kd.R_far (p := ⟨gb570, 1, none⟩) (Kd.R_far (p := ⟨gb570, 0, none⟩) (Kd.R_types HO568.out BK570.out (by decide)) (fun _ hk => hk.2) (.slice Ao32 t563.length co32)) (fun _ hk => hk.2) (.slice Ao35 t566.length co35)) (fun _ h_ => h_.1)))); (case side4 => exact (Kd.R_reads' HO568.out).2.1); (case side5 => exact Kd.C_below HR2.out (bq2_ HB.out GE558.out GE570.out)); (case side6 => exact HC2.out); rintro e w36 ⟨v572, v575, rfl, ho0, ho1, hb⟩; refine ⟨_, rfl, ?_⟩; have n0_ := Aside0.mk (Kd.R_mono (Kd.R_told (Kd.R_told (Kd.R_old (by (with_reducible repeat (first | apply Kd.R_alloc | apply Kd.R_drewN | apply Kd.R_drew)); exact (Kd.R_mono (Kd.R_far (p := ⟨gb570, 1, none⟩) (Kd.R_far (p := ⟨gb570, 0, none⟩) (Kd.R_types HO565.out BK570.out (by decide)) (fun _ hk => hk.2) (.slice Ao32 t563.length co32)) (fun _ hk => hk.2) (.slice Ao35 t566.length co35)) (fun _ h_ => h_.1))) hb) (Kd.R_base ho0)) (Kd.R_base ho1)) (fun _ h_ => h_.1)); have n1_ := Aside0.mk (Kd.R_mono (Kd.R_told (Kd.R_told (Kd.R_old (by (with_reducible repeat (first | apply Kd.R_alloc | apply Kd.R_drewN | apply Kd.R_drew)); exact (Kd.R_mono (Kd.R_far (p := ⟨gb570, 1, none⟩) (Kd.R_far (p := ⟨gb570, 0, none⟩) (Kd.R_types HO568.out BK570.out (by decide)) (fun _ hk => hk.2) (.slice Ao32 t563.length co32)) (fun _ hk => hk.2) (.slice Ao35 t566.length co35)) (fun _ h_ => h_.1))) hb) (Kd.R_base ho0)) (Kd.R_base ho1)) (fun _ h_ => h_.1)); have n2_ := Aside0.mk (Kd.R_lower (Kd.R_new' (Kd.R_new' ho0 (Kd.R_lt (by (with_reducible repeat (first | apply Kd.R_alloc | apply Kd.R_drewN | apply Kd.R_drew)); exact (Kd.R_mono (Kd.R_far (p := ⟨gb570, 1, none⟩) (Kd.R_far (p := ⟨gb570, 0, none⟩) (Kd.R_types HO565.out BK570.out (by decide)) (fun _ hk => hk.2) (.slice Ao32 t563.length co32)) (fun _ hk => hk.2) (.slice Ao35 t566.length co35)) (fun _ h_ => h_.1))))) (Kd.R_lt (by (with_reducible repeat (first | apply Kd.R_alloc | apply Kd.R_drewN | apply Kd.R_drew)); exact (Kd.R_mono (Kd.R_far (p := ⟨gb570, 1, none⟩) (Kd.R_far (p := ⟨gb570, 0, none⟩) (Kd.R_types HO568.out BK570.out (by decide)) (fun _ hk => hk.2) (.slice Ao32 t563.length co32)) (fun _ hk => hk.2) (.slice Ao35 t566.length co35)) (fun _ h_ => h_.1))))) (below_size (bq2_ HB.out GE558.out GE570.out))); have n3_ := Aside0.mk (Kd.R_lower (Kd.R_new' (Kd.R_new' ho1 (Kd.R_lt (by (with_reducible repeat (first | apply Kd.R_alloc | apply Kd.R_drewN | apply Kd.R_drew)); exact (Kd.R_mono (Kd.R_far (p := ⟨gb570, 1, none⟩) (Kd.R_far (p := ⟨gb570, 0, none⟩) (Kd.R_types HO565.out BK570.out (by decide)) (fun _ hk => hk.2) (.slice Ao32 t563.length co32)) (fun _ hk => hk.2) (.slice Ao35 t566.length co35)) (fun _ h_ => h_.1))))) (Kd.R_lt (by (with_reducible repeat (first | apply Kd.R_alloc | apply Kd.R_drewN | apply Kd.R_drew)); exact (Kd.R_mono (Kd.R_far (p := ⟨gb570, 1, none⟩) (Kd.R_far (p := ⟨gb570, 0, none⟩) (Kd.R_types HO568.out BK570.out (by decide)) (fun _ hk => hk.2) (.slice Ao32 t563.length co32)) (fun _ hk => hk.2) (.slice Ao35 t566.length co35)) (fun _ h_ => h_.1))))) (below_size (bq2_ HB.out GE558.out GE570.out))); have n4_ := Aside0.mk (blk_below (g := gb558) (o := .cells #[.slice A0_0 l0_0.length c0_0, .slice A0_1 l0_1.length c0_1] 24 (0, 0)) (by (with_reducible repeat (first | refine blk_drewN ?_ _ | refine blk_drew ?_ | refine blk_alloc ?_ _)); refine blk_far ?_ NB558_570.out _; (with_reducible repeat (first | refine blk_drewN ?_ _ | refine blk_drew ?_ | refine blk_alloc ?_ _)); refine blk_far ?_ NB558_570.out _; (with_reducible repeat (first | refine blk_drewN ?_ _ | refine blk_drew ?_ | refine blk_alloc ?_ _)); exact BK558.out) hb); have n5_ := Aside0.mk (blk_below (g := gb570) (o := .cells #[.slice Ao32 t563.length co32, .slice Ao35 t566.length co35] 24 (0, 0)) (by (with_reducible repeat (first | refine blk_drewN ?_ _ | refine blk_drew ?_ | refine blk_alloc ?_ _)); refine blk_put (cs := #[.slice Ao32 t563.length co32, .slice none 0 0]) ?_ 1 _ rfl; (with_reducible repeat (first | refine blk_drewN ?_ _ | refine blk_drew ?_ | refine blk_alloc ?_ _)); refine blk_put (cs := #[.slice none 0 0, .slice none 0 0]) ?_ 0 _ rfl; (with_reducible repeat (first | refine blk_drewN ?_ _ | refine blk_drew ?_ | refine blk_alloc ?_ _)); exact BK570.out) hb); have n6_ := Aside0.mk (below_step (bq2_ HB.out GE558.out GE570.out) hb); clear HO565; clear HO568; clear BK558; clear BK570; clear HB; have HO565 := n0_; have HO568 := n1_; have HO573 := n2_; have HO576 := n3_; have BK558 := n4_; have BK570 := n5_; have HB := n6_; clear n0_ n1_ n2_ n3_ n4_ n5_ n6_; (try clear hb); (try clear ho0); (try clear ho1)) | ((with_reducible refine gate_dst (N := 11) rfl ?_); (try (refine gate_guard (by rfl) ?_; dsimp only)); refine box_event ?hg (N := 11) ?hd (cs := #[.slice none 0 0, .slice none 0 0]) (t := 24) ?hr ?_; (case hd => rfl); (case hg => rfl); (case hr => first | (go_simp; done) | (go_simp; rfl)); intro gb578 hg w37 hbox hb; have n0_ := Aside0.mk (Kd.R_below (mvR_ HO565.out) hb); have n1_ := Aside0.mk (Kd.R_below (mvR_ HO568.out) hb); have n2_ := Aside0.mk (Kd.R_below (mvR_ HO573.out) hb); have n3_ := Aside0.mk (Kd.R_below (mvR_ HO576.out) hb); have n4_ := Aside0.mk (blk_below (g := gb558) (o := .cells #[.slice A0_0 l0_0.length c0_0, .slice A0_1 l0_1.length c0_1] 24 (0, 0)) (mvK_ BK558.out) hb); have n5_ := Aside0.mk (blk_below (g := gb570) (o := .cells #[.slice Ao32 t563.length co32, .slice Ao35 t566.length co35] 24 (0, 0)) (mvK_ BK570.out) hb); have n6_ := Aside0.mk (below_step (bq2_ HB.out GE558.out GE570.out) hb); have n7_ := Aside0.mk (hbox); have n8_ := Aside0.mk ((by rw [hg]; exact (below_size (bq2_ HB.out GE558.out GE570.out)) : w.heap.size ≤ gb578)); have n9_ := Aside0.mk ((by rw [hg]; exact (below_size (bq2_ HB.out GE558.out GE570.out)) : w.heap.size ≤ gb578)); have n10_ := Aside0.mk ((by rw [hg]; exact Nat.ne_of_lt (blk_lt (g := gb558) (o := .cells #[.slice A0_0 l0_0.length c0_0, .slice A0_1 l0_1.length c0_1] 24 (0, 0)) (mvK_ BK558.out)) : gb558 ≠ gb578)); have n11_ := Aside0.mk ((by rw [hg]; exact Nat.ne_of_gt (blk_lt (g := gb558) (o := .cells #[.slice A0_0 l0_0.length c0_0, .slice A0_1 l0_1.length c0_1] 24 (0, 0)) (mvK_ BK558.out)) : gb578 ≠ gb558)); have n12_ := Aside0.mk ((by rw [hg]; exact Nat.ne_of_lt (blk_lt (g := gb570) (o := .cells #[.slice Ao32 t563.length co32, .slice Ao35 t566.length co35] 24 (0, 0)) (mvK_ BK570.out)) : gb570 ≠ gb578)); have n13_ := Aside0.mk ((by rw [hg]; exact Nat.ne_of_gt (blk_lt (g := gb570) (o := .cells #[.slice Ao32 t563.length co32, .slice Ao35 t566.length co35] 24 (0, 0)) (mvK_ BK570.out)) : gb578 ≠ gb570)); clear HO565; clear HO568; clear HO573; clear HO576; clear BK558; clear BK570; clear HB; have HO565 := n0_; have HO568 := n1_; have HO573 := n2_; have HO576 := n3_; have BK558 := n4_; have BK570 := n5_; have HB := n6_; have BK578 := n7_; have GW578 := n8_; have GE578 := n9_; have NB558_578 := n10_; have NB578_558 := n11_; have NB570_578 := n12_; have NB578_570 := n13_; clear n0_ n1_ n2_ n3_ n4_ n5_ n6_ n7_ n8_ n9_ n10_ n11_ n12_ n13_; clear hb hbox hg; obtain ⟨Ao38, co38, eo38⟩ := Kd.R_slice HO573.out; subst eo38; have hnb39 := NB578_558.out; have hnc39 := NB558_578.out; have hnb40 := NB578_570.out; have hnc40 := NB570_578.out; have hcz41_0 : w37.cell? ⟨gb578, 0, none⟩ = some (.slice none 0 0) := (blk_cell BK578.out 0).trans rfl; have hcz41_1 : w37.cell? ⟨gb578, 1, none⟩ = some (.slice none 0 0) := (blk_cell BK578.out 1).trans rfl; have hfz41_0 := blk_frozen BK578.out 0; have hfz41_1 := blk_frozen BK578.out 1; obtain ⟨Ao42, co42, eo42⟩ := Kd.R_slice HO576.out; subst eo42; have hcz43_0 : w37.cell? ⟨gb558, 0, none⟩ = some (.slice A0_0 l0_0.length c0_0) := (blk_cell BK558.out 0).trans rfl; have hcz43_1 : w37.cell? ⟨gb558, 1, none⟩ = some (.slice A0_1 l0_1.length c0_1) := (blk_cell BK558.out 1).trans rfl; have hfz43_0 := blk_frozen BK558.out 0; have hfz43_1 := blk_frozen BK558.out 1) | ((with_reducible refine gate_callee (f := 18) rfl ?_); refine goesL_ (some 67) rfl rfl Try.func18 (by kernel_rfl) rfl #[.agg #[.slice A0_0 l0_0.length c0_0, .slice A0_1 l0_1.length c0_1], .slice A2 l2.length c2] rfl (by (try simp only [List.map_toArray, List.map_cons, List.map_nil]); first | done | rfl | (simp only [List.length_drop, List.length_take]; rfl)) ?_; (with_reducible refine (tensor_Fold.calls k2 _ _ l0_0 _ _ l0_1 _ _ l2 t579 t582 t585 _ ?side1 ?side2 ?side3 ?side4 ?side5 ?side6 A27.out).mono ?_); (case side1 => exact Kd.C_below HR0_0.out (bq3_ HB.out GE558.out GE570.out GE578.out)); (case side2 => exact HC0_0.out); (case side3 => exact Kd.C_below HR0_1.out (bq3_ HB.out GE558.out GE570.out GE578.out)); (case side4 => exact HC0_1.out); (case side5 => exact Kd.C_below HR2.out (bq3_ HB.out GE558.out GE570.out GE578.out)); (case side6 => exact HC2.out); rintro e w44 ⟨v580, v583, rfl, ho0, ho1, hb⟩; refine ⟨_, rfl, ?_⟩; have n0_ := Aside0.mk (Kd.R_mono (Kd.R_told (Kd.R_told (Kd.R_old (by (with_reducible repeat (first | apply Kd.R_alloc | apply Kd.R_drewN | apply Kd.R_drew)); exact (Kd.R_mono (Kd.R_far (p := ⟨gb578, 1, none⟩) (Kd.R_far (p := ⟨gb578, 0, none⟩) (Kd.R_types HO565.out BK578.out (by decide)) (fun _ hk => hk.2) (.slice Ao38 t571.length co38)) (fun _ hk => hk.2) (.slice Ao42 t574.length co42)) (fun _ h_ => h_.1))) hb) (Kd.R_base ho0)) (Kd.R_base ho1)) (fun _ h_ => h_.1)); have n1_ := Aside0.mk (Kd.R_mono (Kd.R_told (Kd.R_told (Kd.R_old (by (with_reducible repeat (first | apply Kd.R_alloc | apply Kd.R_drewN | apply Kd.R_drew)); exact (Kd.R_mono (Kd.R_far (p := ⟨gb578, 1, none⟩) (Kd.R_far (p := ⟨gb578, 0, none⟩) (Kd.R_types HO568.out BK578.out (by decide)) (fun _ hk => hk.2) (.slice Ao38 t571.length co38)) (fun _ hk => hk.2) (.slice Ao42 t574.length co42)) (fun _ h_ => h_.1))) hb) (Kd.R_base ho0)) (Kd.R_base ho1)) (fun _ h_ => h_.1)); have n2_ := Aside0.mk (Kd.R_mono (Kd.R_told (Kd.R_told (Kd.R_old (by (with_reducible repeat (first | apply Kd.R_alloc | apply Kd.R_drewN | apply Kd.R_drew)); exact (Kd.R_mono (Kd.R_far (p := ⟨gb578, 1, none⟩) (Kd.R_far (p := ⟨gb578, 0, none⟩) (Kd.R_types HO573.out BK578.out (by decide)) (fun _ hk => hk.2) (.slice Ao38 t571.length co38)) (fun _ hk => hk.2) (.slice Ao42 t574.length co42)) (fun _ h_ => h_.1))) hb) (Kd.R_base ho0)) (Kd.R_base ho1)) (fun _ h_ => h_.1)); have n3_ := Aside0.mk (Kd.R_mono (Kd.R_told (Kd.R_told (Kd.R_old (by (with_reducible repeat (first | apply Kd.R_alloc | apply Kd.R_drewN | apply Kd.R_drew)); exact (Kd.R_mono (Kd.R_far (p := ⟨gb578, 1, none⟩) (Kd.R_far (p := ⟨gb578, 0, none⟩) (Kd.R_types HO576.out BK578.out (by decide)) (fun _ hk => hk.2) (.slice Ao38 t571.length co38)) (fun _ hk => hk.2) (.slice Ao42 t574.length co42)) (fun _ h_ => h_.1))) hb) (Kd.R_base ho0)) (Kd.R_base ho1)) (fun _ h_ => h_.1)); have n4_ := Aside0.mk (Kd.R_lower (Kd.R_new' (Kd.R_new' (Kd.R_new' (Kd.R_new' ho0 (Kd.R_lt (by (with_reducible repeat (first | apply Kd.R_alloc | apply Kd.R_drewN | apply Kd.R_drew)); exact (Kd.R_mono (Kd.R_far (p := ⟨gb578, 1, none⟩) (Kd.R_far (p := ⟨gb578, 0, none⟩) (Kd.R_types HO565.out BK578.out (by decide)) (fun _ hk => hk.2) (.slice Ao38 t571.length co38)) (fun _ hk => hk.2) (.slice Ao42 t574.length co42)) (fun _ h_ => h_.1))))) (Kd.R_lt (by (with_reducible repeat (first | apply Kd.R_alloc | apply Kd.R_drewN | apply Kd.R_drew)); exact (Kd.R_mono (Kd.R_far (p := ⟨gb578, 1, none⟩) (Kd.R_far (p := ⟨gb578, 0, none⟩) (Kd.R_types HO568.out BK578.out (by decide)) (fun _ hk => hk.2) (.slice Ao38 t571.length co38)) (fun _ hk => hk.2) (.slice Ao42 t574.length co42)) (fun _ h_ => h_.1))))) (Kd.R_lt (by (with_reducible repeat (first | apply Kd.R_alloc | apply Kd.R_drewN | apply Kd.R_drew)); exact (Kd.R_mono (Kd.R_far (p := ⟨gb578, 1, none⟩) (Kd.R_far (p := ⟨gb578, 0, none⟩) (Kd.R_types HO573.out BK578.out (by decide)) (fun _ hk => hk.2) (.slice Ao38 t571.length co38)) (fun _ hk => hk.2) (.slice Ao42 t574.length co42)) (fun _ h_ => h_.1))))) (Kd.R_lt (by (with_reducible repeat (first | apply Kd.R_alloc | apply Kd.R_drewN | apply Kd.R_drew)); exact (Kd.R_mono (Kd.R_far (p := ⟨gb578, 1, none⟩) (Kd.R_far (p := ⟨gb578, 0, none⟩) (Kd.R_types HO576.out BK578.out (by decide)) (fun _ hk => hk.2) (.slice Ao38 t571.length co38)) (fun _ hk => hk.2) (.slice Ao42 t574.length co42)) (fun _ h_ => h_.1))))) (below_size (bq3_ HB.out GE558.out GE570.out GE578.out))); have n5_ := Aside0.mk (Kd.R_lower (Kd.R_new' (Kd.R_new' (Kd.R_new' (Kd.R_new' ho1 (Kd.R_lt (by (with_reducible repeat (first | apply Kd.R_alloc | apply Kd.R_drewN | apply Kd.R_drew)); exact (Kd.R_mono (Kd.R_far (p := ⟨gb578, 1, none⟩) (Kd.R_far (p := ⟨gb578, 0, none⟩) (Kd.R_types HO565.out BK578.out (by decide)) (fun _ hk => hk.2) (.slice Ao38 t571.length co38)) (fun _ hk => hk.2) (.slice Ao42 t574.length co42)) (fun _ h_ => h_.1))))) (Kd.R_lt (by (with_reducible repeat (first | apply Kd.R_alloc | apply Kd.R_drewN | apply Kd.R_drew)); exact (Kd.R_mono (Kd.R_far (p := ⟨gb578, 1, none⟩) (Kd.R_far (p := ⟨gb578, 0, none⟩) (Kd.R_types HO568.out BK578.out (by decide)) (fun _ hk => hk.2) (.slice Ao38 t571.length co38)) (fun _ hk => hk.2) (.slice Ao42 t574.length co42)) (fun _ h_ => h_.1))))) (Kd.R_lt (by (with_reducible repeat (first | apply Kd.R_alloc | apply Kd.R_drewN | apply Kd.R_drew)); exact (Kd.R_mono (Kd.R_far (p := ⟨gb578, 1, none⟩) (Kd.R_far (p := ⟨gb578, 0, none⟩) (Kd.R_types HO573.out BK578.out (by decide)) (fun _ hk => hk.2) (.slice Ao38 t571.length co38)) (fun _ hk => hk.2) (.slice Ao42 t574.length co42)) (fun _ h_ => h_.1))))) (Kd.R_lt (by (with_reducible repeat (first | apply Kd.R_alloc | apply Kd.R_drewN | apply Kd.R_drew)); exact (Kd.R_mono (Kd.R_far (p := ⟨gb578, 1, none⟩) (Kd.R_far (p := ⟨gb578, 0, none⟩) (Kd.R_types HO576.out BK578.out (by decide)) (fun _ hk => hk.2) (.slice Ao38 t571.length co38)) (fun _ hk => hk.2) (.slice Ao42 t574.length co42)) (fun _ h_ => h_.1))))) (below_size (bq3_ HB.out GE558.out GE570.out GE578.out))); have n6_ := Aside0.mk (blk_below (g := gb558) (o := .cells #[.slice A0_0 l0_0.length c0_0, .slice A0_1 l0_1.length c0_1] 24 (0, 0)) (by (with_reducible repeat (first | refine blk_drewN ?_ _ | refine blk_drew ?_ | refine blk_alloc ?_ _)); refine blk_far ?_ NB558_578.out _; (with_reducible repeat (first | refine blk_drewN ?_ _ | refine blk_drew ?_ | refine blk_alloc ?_ _)); refine blk_far ?_ NB558_578.out _; (with_reducible repeat (first | refine blk_drewN ?_ _ | refine blk_drew ?_ | refine blk_alloc ?_ _)); exact BK558.out) hb); have n7_ := Aside0.mk (blk_below (g := gb570) (o := .cells #[.slice Ao32 t563.length co32, .slice Ao35 t566.length co35] 24 (0, 0)) (by (with_reducible repeat (first | refine blk_drewN ?_ _ | refine blk_drew ?_ | refine blk_alloc ?_ _)); refine blk_far ?_ NB570_578.out _; (with_reducible repeat (first | refine blk_drewN ?_ _ | refine blk_drew ?_ | refine blk_alloc ?_ _)); refine blk_far ?_ NB570_578.out _; (with_reducible repeat (first | refine blk_drewN ?_ _ | refine blk_drew ?_ | refine blk_alloc ?_ _)); exact BK570.out) hb); have n8_ := Aside0.mk (blk_below (g := gb578) (o := .cells #[.slice Ao38 t571.length co38, .slice Ao42 t574.length co42] 24 (0, 0)) (by (with_reducible repeat (first | refine blk_drewN ?_ _ | refine blk_drew ?_ | refine blk_alloc ?_ _)); refine blk_put (cs := #[.slice Ao38 t571.length co38, .slice none 0 0]) ?_ 1 _ rfl; (with_reducible repeat (first | refine blk_drewN ?_ _ | refine blk_drew ?_ | refine blk_alloc ?_ _)); refine blk_put (cs := #[.slice none 0 0, .slice none 0 0]) ?_ 0 _ rfl; (with_reducible repeat (first | refine blk_drewN ?_ _ | refine blk_drew ?_ | refine blk_alloc ?_ _)); exact BK578.out) hb); have n9_ := Aside0.mk (below_step (bq3_ HB.out GE558.out GE570.out GE578.out) hb); clear HO565; clear HO568; clear HO573; clear HO576; clear BK558; clear BK570; clear BK578; clear HB; have HO565 := n0_; have HO568 := n1_; have HO573 := n2_; have HO576 := n3_; have HO581 := n4_; have HO584 := n5_; have BK558 := n6_; have BK570 := n7_; have BK578 := n8_; have HB := n9_; clear n0_ n1_ n2_ n3_ n4_ n5_ n6_ n7_ n8_ n9_; (try clear hb); (try clear ho0); (try clear ho1)) | ((with_reducible refine gate_dst (N := 13) rfl ?_); (try (refine gate_guard (by rfl) ?_; dsimp only)); refine box_event ?hg (N := 13) ?hd (cs := #[.slice none 0 0, .slice none 0 0]) (t := 24) ?hr ?_; (case hd => rfl); (case hg => rfl); (case hr => first | (go_simp; done) | (go_simp; rfl)); intro gb586 hg w45 hbox hb; have n0_ := Aside0.mk (Kd.R_below (mvR_ HO565.out) hb); have n1_ := Aside0.mk (Kd.R_below (mvR_ HO568.out) hb); have n2_ := Aside0.mk (Kd.R_below (mvR_ HO573.out) hb); have n3_ := Aside0.mk (Kd.R_below (mvR_ HO576.out) hb); have n4_ := Aside0.mk (Kd.R_below (mvR_ HO581.out) hb); have n5_ := Aside0.mk (Kd.R_below (mvR_ HO584.out) hb); have n6_ := Aside0.mk (blk_below (g := gb558) (o := .cells #[.slice A0_0 l0_0.length c0_0, .slice A0_1 l0_1.length c0_1] 24 (0, 0)) (mvK_ BK558.out) hb); have n7_ := Aside0.mk (blk_below (g := gb570) (o := .cells #[.slice Ao32 t563.length co32, .slice Ao35 t566.length co35] 24 (0, 0)) (mvK_ BK570.out) hb); have n8_ := Aside0.mk (blk_below (g := gb578) (o := .cells #[.slice Ao38 t571.length co38, .slice Ao42 t574.length co42] 24 (0, 0)) (mvK_ BK578.out) hb); have n9_ := Aside0.mk (below_step (bq3_ HB.out GE558.out GE570.out GE578.out) hb); have n10_ := Aside0.mk (hbox); have n11_ := Aside0.mk ((by rw [hg]; exact (below_size (bq3_ HB.out GE558.out GE570.out GE578.out)) : w.heap.size ≤ gb586)); have n12_ := Aside0.mk ((by rw [hg]; exact (below_size (bq3_ HB.out GE558.out GE570.out GE578.out)) : w.heap.size ≤ gb586)); have n13_ := Aside0.mk ((by rw [hg]; exact Nat.ne_of_lt (blk_lt (g := gb558) (o := .cells #[.slice A0_0 l0_0.length c0_0, .slice A0_1 l0_1.length c0_1] 24 (0, 0)) (mvK_ BK558.out)) : gb558 ≠ gb586)); have n14_ := Aside0.mk ((by rw [hg]; exact Nat.ne_of_gt (blk_lt (g := gb558) (o := .cells #[.slice A0_0 l0_0.length c0_0, .slice A0_1 l0_1.length c0_1] 24 (0, 0)) (mvK_ BK558.out)) : gb586 ≠ gb558)); have n15_ := Aside0.mk ((by rw [hg]; exact Nat.ne_of_lt (blk_lt (g := gb570) (o := .cells #[.slice Ao32 t563.length co32, .slice Ao35 t566.length co35] 24 (0, 0)) (mvK_ BK570.out)) : gb570 ≠ gb586)); have n16_ := Aside0.mk ((by rw [hg]; exact Nat.ne_of_gt (blk_lt (g := gb570) (o := .cells #[.slice Ao32 t563.length co32, .slice Ao35 t566.length co35] 24 (0, 0)) (mvK_ BK570.out)) : gb586 ≠ gb570)); have n17_ := Aside0.mk ((by rw [hg]; exact Nat.ne_of_lt (blk_lt (g := gb578) (o := .cells #[.slice Ao38 t571.length co38, .slice Ao42 t574.length co42] 24 (0, 0)) (mvK_ BK578.out)) : gb578 ≠ gb586)); have n18_ := Aside0.mk ((by rw [hg]; exact Nat.ne_of_gt (blk_lt (g := gb578) (o := .cells #[.slice Ao38 t571.length co38, .slice Ao42 t574.length co42] 24 (0, 0)) (mvK_ BK578.out)) : gb586 ≠ gb578)); clear HO565; clear HO568; clear HO573; clear HO576; clear HO581; clear HO584; clear BK558; clear BK570; clear BK578; clear HB; have HO565 := n0_; have HO568 := n1_; have HO573 := n2_; have HO576 := n3_; have HO581 := n4_; have HO584 := n5_; have BK558 := n6_; have BK570 := n7_; have BK578 := n8_; have HB := n9_; have BK586 := n10_; have GW586 := n11_; have GE586 := n12_; have NB558_586 := n13_; have NB586_558 := n14_; have NB570_586 := n15_; have NB586_570 := n16_; have NB578_586 := n17_; have NB586_578 := n18_; clear n0_ n1_ n2_ n3_ n4_ n5_ n6_ n7_ n8_ n9_ n10_ n11_ n12_ n13_ n14_ n15_ n16_ n17_ n18_; clear hb hbox hg; obtain ⟨Ao46, co46, eo46⟩ := Kd.R_slice HO581.out; subst eo46; have hnb47 := NB586_558.out; have hnc47 := NB558_586.out; have hnb48 := NB586_570.out; have hnc48 := NB570_586.out; have hnb49 := NB586_578.out; have hnc49 := NB578_586.out; have hcz50_0 : w45.cell? ⟨gb586, 0, none⟩ = some (.slice none 0 0) := (blk_cell BK586.out 0).trans rfl; have hcz50_1 : w45.cell? ⟨gb586, 1, none⟩ = some (.slice none 0 0) := (blk_cell BK586.out 1).trans rfl; have hfz50_0 := blk_frozen BK586.out 0; have hfz50_1 := blk_frozen BK586.out 1; obtain ⟨Ao51, co51, eo51⟩ := Kd.R_slice HO584.out; subst eo51))
       (try simp only [Act.put, sA_, sB_, sC_])
       go_cut [75] (fun v75 wc => ∃ (kq : Nat) (x75_27 : Bool), v75 = .bool x75_27 ∧ Aside0 (fullerlaw03_TensorParts.j2 kq t559 t585 x75_27 t571 t574 t579 t582 = some r) ∧ Aside0 (kq ≤ k2) ∧ Aside0 (Kd.R (Kd.int .i64) 3 wc w.heap.size (fun k_ => some k_ ≠ ((.slice Ao35 t566.length co35) : Value).ownBlock ∧ some k_ ≠ ((.slice Ao38 t571.length co38) : Value).ownBlock ∧ some k_ ≠ ((.slice Ao42 t574.length co42) : Value).ownBlock ∧ some k_ ≠ ((.slice Ao46 t579.length co46) : Value).ownBlock ∧ some k_ ≠ ((.slice Ao51 t582.length co51) : Value).ownBlock) (.slice Ao32 t563.length co32) t563) ∧ Aside0 (Kd.R (Kd.int .i64) 3 wc w.heap.size (fun k_ => some k_ ≠ ((.slice Ao32 t563.length co32) : Value).ownBlock ∧ some k_ ≠ ((.slice Ao38 t571.length co38) : Value).ownBlock ∧ some k_ ≠ ((.slice Ao42 t574.length co42) : Value).ownBlock ∧ some k_ ≠ ((.slice Ao46 t579.length co46) : Value).ownBlock ∧ some k_ ≠ ((.slice Ao51 t582.length co51) : Value).ownBlock) (.slice Ao35 t566.length co35) t566) ∧ Aside0 (Kd.R (Kd.int .i64) 3 wc w.heap.size (fun k_ => some k_ ≠ ((.slice Ao32 t563.length co32) : Value).ownBlock ∧ some k_ ≠ ((.slice Ao35 t566.length co35) : Value).ownBlock ∧ some k_ ≠ ((.slice Ao42 t574.length co42) : Value).ownBlock ∧ some k_ ≠ ((.slice Ao46 t579.length co46) : Value).ownBlock ∧ some k_ ≠ ((.slice Ao51 t582.length co51) : Value).ownBlock) (.slice Ao38 t571.length co38) t571) ∧ Aside0 (Kd.R (Kd.int .i64) 3 wc w.heap.size (fun k_ => some k_ ≠ ((.slice Ao32 t563.length co32) : Value).ownBlock ∧ some k_ ≠ ((.slice Ao35 t566.length co35) : Value).ownBlock ∧ some k_ ≠ ((.slice Ao38 t571.length co38) : Value).ownBlock ∧ some k_ ≠ ((.slice Ao46 t579.length co46) : Value).ownBlock ∧ some k_ ≠ ((.slice Ao51 t582.length co51) : Value).ownBlock) (.slice Ao42 t574.length co42) t574) ∧ Aside0 (Kd.R (Kd.int .i64) 3 wc w.heap.size (fun k_ => some k_ ≠ ((.slice Ao32 t563.length co32) : Value).ownBlock ∧ some k_ ≠ ((.slice Ao35 t566.length co35) : Value).ownBlock ∧ some k_ ≠ ((.slice Ao38 t571.length co38) : Value).ownBlock ∧ some k_ ≠ ((.slice Ao42 t574.length co42) : Value).ownBlock ∧ some k_ ≠ ((.slice Ao51 t582.length co51) : Value).ownBlock) (.slice Ao46 t579.length co46) t579) ∧ Aside0 (Kd.R (Kd.int .i64) 3 wc w.heap.size (fun k_ => some k_ ≠ ((.slice Ao32 t563.length co32) : Value).ownBlock ∧ some k_ ≠ ((.slice Ao35 t566.length co35) : Value).ownBlock ∧ some k_ ≠ ((.slice Ao38 t571.length co38) : Value).ownBlock ∧ some k_ ≠ ((.slice Ao42 t574.length co42) : Value).ownBlock ∧ some k_ ≠ ((.slice Ao46 t579.length co46) : Value).ownBlock) (.slice Ao51 t582.length co51) t582) ∧ Aside0 (wc.heap[gb558]? = some (.cells #[(.slice A0_0 l0_0.length c0_0), (.slice A0_1 l0_1.length c0_1)] 24 (0, 0))) ∧ Aside0 (wc.heap[gb570]? = some (.cells #[(.slice Ao32 t563.length co32), (.slice Ao35 t566.length co35)] 24 (0, 0))) ∧ Aside0 (wc.heap[gb578]? = some (.cells #[(.slice Ao38 t571.length co38), (.slice Ao42 t574.length co42)] 24 (0, 0))) ∧ Aside0 (wc.heap[gb586]? = some (.cells #[(.slice Ao46 t579.length co46), (.slice Ao51 t582.length co51)] 24 (0, 0))) ∧ Aside0 (Below w.heap.size w wc))
       case first =>
        have H := HC28.out
        clear HC28
        by_cases c52 : t569 = 0
        ·rw [if_pos c52] at H
         have c52b0 : (t569 == 0) = true := beq_iff_eq.mpr c52
         have c52b1 : (t569 != 0) = false := bne_eq_false_iff_eq.mpr c52
         clear c52
         (first | rw [c52b0] | (simp only [i64_w, i32_w]; rw [c52b0]) | skip)
         have H' := Aside0.mk H
         clear H
         go_wp2
         go_meet
         case rel => exact ⟨_, ((t577 != 0)), (by first | rfl | (simp; done) | (simp [*]; done)), H', ⟨by have := HJ4.out; have := HK2.out; first | omega | exact Nat.le_refl _⟩, ⟨by (with_reducible repeat (first | apply Kd.R_alloc | apply Kd.R_drewN | apply Kd.R_drew)); exact Kd.R_mono (Kd.R_far (p := ⟨gb586, 1, none⟩) (Kd.R_far (p := ⟨gb586, 0, none⟩) (Kd.R_types HO565.out BK586.out (by decide)) (fun _ hk => hk.2) (.slice Ao46 t579.length co46)) (fun _ hk => hk.2) (.slice Ao51 t582.length co51)) (fun _ hk => ⟨hk.1.1.1.1.1, ⟨hk.1.1.1.1.2, ⟨hk.1.1.1.2, ⟨hk.1.1.2, hk.1.2⟩⟩⟩⟩)⟩, ⟨by (with_reducible repeat (first | apply Kd.R_alloc | apply Kd.R_drewN | apply Kd.R_drew)); exact Kd.R_mono (Kd.R_far (p := ⟨gb586, 1, none⟩) (Kd.R_far (p := ⟨gb586, 0, none⟩) (Kd.R_types HO568.out BK586.out (by decide)) (fun _ hk => hk.2) (.slice Ao46 t579.length co46)) (fun _ hk => hk.2) (.slice Ao51 t582.length co51)) (fun _ hk => ⟨hk.1.1.1.1.1, ⟨hk.1.1.1.1.2, ⟨hk.1.1.1.2, ⟨hk.1.1.2, hk.1.2⟩⟩⟩⟩)⟩, ⟨by (with_reducible repeat (first | apply Kd.R_alloc | apply Kd.R_drewN | apply Kd.R_drew)); exact Kd.R_mono (Kd.R_far (p := ⟨gb586, 1, none⟩) (Kd.R_far (p := ⟨gb586, 0, none⟩) (Kd.R_types HO573.out BK586.out (by decide)) (fun _ hk => hk.2) (.slice Ao46 t579.length co46)) (fun _ hk => hk.2) (.slice Ao51 t582.length co51)) (fun _ hk => ⟨hk.1.1.1.1.2, ⟨hk.1.1.1.2, ⟨hk.1.1.1.1.1, ⟨hk.1.1.2, hk.1.2⟩⟩⟩⟩)⟩, ⟨by (with_reducible repeat (first | apply Kd.R_alloc | apply Kd.R_drewN | apply Kd.R_drew)); exact Kd.R_mono (Kd.R_far (p := ⟨gb586, 1, none⟩) (Kd.R_far (p := ⟨gb586, 0, none⟩) (Kd.R_types HO576.out BK586.out (by decide)) (fun _ hk => hk.2) (.slice Ao46 t579.length co46)) (fun _ hk => hk.2) (.slice Ao51 t582.length co51)) (fun _ hk => ⟨hk.1.1.1.1.2, ⟨hk.1.1.1.2, ⟨hk.1.1.1.1.1, ⟨hk.1.1.2, hk.1.2⟩⟩⟩⟩)⟩, ⟨by (with_reducible repeat (first | apply Kd.R_alloc | apply Kd.R_drewN | apply Kd.R_drew)); exact Kd.R_mono (Kd.R_far (p := ⟨gb586, 1, none⟩) (Kd.R_far (p := ⟨gb586, 0, none⟩) (Kd.R_types HO581.out BK586.out (by decide)) (fun _ hk => hk.2) (.slice Ao46 t579.length co46)) (fun _ hk => hk.2) (.slice Ao51 t582.length co51)) (fun _ hk => ⟨hk.1.1.1.1.2, ⟨hk.1.1.1.2, ⟨hk.1.1.2, ⟨hk.1.2, hk.1.1.1.1.1⟩⟩⟩⟩)⟩, ⟨by (with_reducible repeat (first | apply Kd.R_alloc | apply Kd.R_drewN | apply Kd.R_drew)); exact Kd.R_mono (Kd.R_far (p := ⟨gb586, 1, none⟩) (Kd.R_far (p := ⟨gb586, 0, none⟩) (Kd.R_types HO584.out BK586.out (by decide)) (fun _ hk => hk.2) (.slice Ao46 t579.length co46)) (fun _ hk => hk.2) (.slice Ao51 t582.length co51)) (fun _ hk => ⟨hk.1.1.1.1.2, ⟨hk.1.1.1.2, ⟨hk.1.1.2, ⟨hk.1.2, hk.1.1.1.1.1⟩⟩⟩⟩)⟩, ⟨by (with_reducible repeat (first | refine blk_drewN ?_ _ | refine blk_drew ?_ | refine blk_alloc ?_ _)); refine blk_far ?_ NB558_586.out _; (with_reducible repeat (first | refine blk_drewN ?_ _ | refine blk_drew ?_ | refine blk_alloc ?_ _)); refine blk_far ?_ NB558_586.out _; (with_reducible repeat (first | refine blk_drewN ?_ _ | refine blk_drew ?_ | refine blk_alloc ?_ _)); exact BK558.out⟩, ⟨by (with_reducible repeat (first | refine blk_drewN ?_ _ | refine blk_drew ?_ | refine blk_alloc ?_ _)); refine blk_far ?_ NB570_586.out _; (with_reducible repeat (first | refine blk_drewN ?_ _ | refine blk_drew ?_ | refine blk_alloc ?_ _)); refine blk_far ?_ NB570_586.out _; (with_reducible repeat (first | refine blk_drewN ?_ _ | refine blk_drew ?_ | refine blk_alloc ?_ _)); exact BK570.out⟩, ⟨by (with_reducible repeat (first | refine blk_drewN ?_ _ | refine blk_drew ?_ | refine blk_alloc ?_ _)); refine blk_far ?_ NB578_586.out _; (with_reducible repeat (first | refine blk_drewN ?_ _ | refine blk_drew ?_ | refine blk_alloc ?_ _)); refine blk_far ?_ NB578_586.out _; (with_reducible repeat (first | refine blk_drewN ?_ _ | refine blk_drew ?_ | refine blk_alloc ?_ _)); exact BK578.out⟩, ⟨by (with_reducible repeat (first | refine blk_drewN ?_ _ | refine blk_drew ?_ | refine blk_alloc ?_ _)); refine blk_put (cs := #[.slice Ao46 t579.length co46, .slice none 0 0]) ?_ 1 _ rfl; (with_reducible repeat (first | refine blk_drewN ?_ _ | refine blk_drew ?_ | refine blk_alloc ?_ _)); refine blk_put (cs := #[.slice none 0 0, .slice none 0 0]) ?_ 0 _ rfl; (with_reducible repeat (first | refine blk_drewN ?_ _ | refine blk_drew ?_ | refine blk_alloc ?_ _)); exact BK586.out⟩, ⟨by repeat (first | (with_reducible first | exact HB.out | apply below_alloc | apply pw_below_drewN | apply below_drew1 | refine below_set ?_ GE558.out | refine below_set ?_ GE570.out | refine below_set ?_ GE578.out | refine below_set ?_ GE586.out) | exact HB.out)⟩⟩
        ·rw [if_neg c52] at H
         have c52b0 : (t569 == 0) = false := beq_eq_false_iff_ne.mpr c52
         have c52b1 : (t569 != 0) = true := bne_iff_ne.mpr c52
         (first | rw [c52b0] | (simp only [i64_w, i32_w]; rw [c52b0]) | skip)
         have H' := Aside0.mk H
         clear H
         go_wp2
         go_meet
         case rel => exact ⟨_, (true), (by first | rfl | (simp; done) | (simp [*]; done)), H', ⟨by have := HJ4.out; have := HK2.out; first | omega | exact Nat.le_refl _⟩, ⟨by (with_reducible repeat (first | apply Kd.R_alloc | apply Kd.R_drewN | apply Kd.R_drew)); exact Kd.R_mono (Kd.R_far (p := ⟨gb586, 1, none⟩) (Kd.R_far (p := ⟨gb586, 0, none⟩) (Kd.R_types HO565.out BK586.out (by decide)) (fun _ hk => hk.2) (.slice Ao46 t579.length co46)) (fun _ hk => hk.2) (.slice Ao51 t582.length co51)) (fun _ hk => ⟨hk.1.1.1.1.1, ⟨hk.1.1.1.1.2, ⟨hk.1.1.1.2, ⟨hk.1.1.2, hk.1.2⟩⟩⟩⟩)⟩, ⟨by (with_reducible repeat (first | apply Kd.R_alloc | apply Kd.R_drewN | apply Kd.R_drew)); exact Kd.R_mono (Kd.R_far (p := ⟨gb586, 1, none⟩) (Kd.R_far (p := ⟨gb586, 0, none⟩) (Kd.R_types HO568.out BK586.out (by decide)) (fun _ hk => hk.2) (.slice Ao46 t579.length co46)) (fun _ hk => hk.2) (.slice Ao51 t582.length co51)) (fun _ hk => ⟨hk.1.1.1.1.1, ⟨hk.1.1.1.1.2, ⟨hk.1.1.1.2, ⟨hk.1.1.2, hk.1.2⟩⟩⟩⟩)⟩, ⟨by (with_reducible repeat (first | apply Kd.R_alloc | apply Kd.R_drewN | apply Kd.R_drew)); exact Kd.R_mono (Kd.R_far (p := ⟨gb586, 1, none⟩) (Kd.R_far (p := ⟨gb586, 0, none⟩) (Kd.R_types HO573.out BK586.out (by decide)) (fun _ hk => hk.2) (.slice Ao46 t579.length co46)) (fun _ hk => hk.2) (.slice Ao51 t582.length co51)) (fun _ hk => ⟨hk.1.1.1.1.2, ⟨hk.1.1.1.2, ⟨hk.1.1.1.1.1, ⟨hk.1.1.2, hk.1.2⟩⟩⟩⟩)⟩, ⟨by (with_reducible repeat (first | apply Kd.R_alloc | apply Kd.R_drewN | apply Kd.R_drew)); exact Kd.R_mono (Kd.R_far (p := ⟨gb586, 1, none⟩) (Kd.R_far (p := ⟨gb586, 0, none⟩) (Kd.R_types HO576.out BK586.out (by decide)) (fun _ hk => hk.2) (.slice Ao46 t579.length co46)) (fun _ hk => hk.2) (.slice Ao51 t582.length co51)) (fun _ hk => ⟨hk.1.1.1.1.2, ⟨hk.1.1.1.2, ⟨hk.1.1.1.1.1, ⟨hk.1.1.2, hk.1.2⟩⟩⟩⟩)⟩, ⟨by (with_reducible repeat (first | apply Kd.R_alloc | apply Kd.R_drewN | apply Kd.R_drew)); exact Kd.R_mono (Kd.R_far (p := ⟨gb586, 1, none⟩) (Kd.R_far (p := ⟨gb586, 0, none⟩) (Kd.R_types HO581.out BK586.out (by decide)) (fun _ hk => hk.2) (.slice Ao46 t579.length co46)) (fun _ hk => hk.2) (.slice Ao51 t582.length co51)) (fun _ hk => ⟨hk.1.1.1.1.2, ⟨hk.1.1.1.2, ⟨hk.1.1.2, ⟨hk.1.2, hk.1.1.1.1.1⟩⟩⟩⟩)⟩, ⟨by (with_reducible repeat (first | apply Kd.R_alloc | apply Kd.R_drewN | apply Kd.R_drew)); exact Kd.R_mono (Kd.R_far (p := ⟨gb586, 1, none⟩) (Kd.R_far (p := ⟨gb586, 0, none⟩) (Kd.R_types HO584.out BK586.out (by decide)) (fun _ hk => hk.2) (.slice Ao46 t579.length co46)) (fun _ hk => hk.2) (.slice Ao51 t582.length co51)) (fun _ hk => ⟨hk.1.1.1.1.2, ⟨hk.1.1.1.2, ⟨hk.1.1.2, ⟨hk.1.2, hk.1.1.1.1.1⟩⟩⟩⟩)⟩, ⟨by (with_reducible repeat (first | refine blk_drewN ?_ _ | refine blk_drew ?_ | refine blk_alloc ?_ _)); refine blk_far ?_ NB558_586.out _; (with_reducible repeat (first | refine blk_drewN ?_ _ | refine blk_drew ?_ | refine blk_alloc ?_ _)); refine blk_far ?_ NB558_586.out _; (with_reducible repeat (first | refine blk_drewN ?_ _ | refine blk_drew ?_ | refine blk_alloc ?_ _)); exact BK558.out⟩, ⟨by (with_reducible repeat (first | refine blk_drewN ?_ _ | refine blk_drew ?_ | refine blk_alloc ?_ _)); refine blk_far ?_ NB570_586.out _; (with_reducible repeat (first | refine blk_drewN ?_ _ | refine blk_drew ?_ | refine blk_alloc ?_ _)); refine blk_far ?_ NB570_586.out _; (with_reducible repeat (first | refine blk_drewN ?_ _ | refine blk_drew ?_ | refine blk_alloc ?_ _)); exact BK570.out⟩, ⟨by (with_reducible repeat (first | refine blk_drewN ?_ _ | refine blk_drew ?_ | refine blk_alloc ?_ _)); refine blk_far ?_ NB578_586.out _; (with_reducible repeat (first | refine blk_drewN ?_ _ | refine blk_drew ?_ | refine blk_alloc ?_ _)); refine blk_far ?_ NB578_586.out _; (with_reducible repeat (first | refine blk_drewN ?_ _ | refine blk_drew ?_ | refine blk_alloc ?_ _)); exact BK578.out⟩, ⟨by (with_reducible repeat (first | refine blk_drewN ?_ _ | refine blk_drew ?_ | refine blk_alloc ?_ _)); refine blk_put (cs := #[.slice Ao46 t579.length co46, .slice none 0 0]) ?_ 1 _ rfl; (with_reducible repeat (first | refine blk_drewN ?_ _ | refine blk_drew ?_ | refine blk_alloc ?_ _)); refine blk_put (cs := #[.slice none 0 0, .slice none 0 0]) ?_ 0 _ rfl; (with_reducible repeat (first | refine blk_drewN ?_ _ | refine blk_drew ?_ | refine blk_alloc ?_ _)); exact BK586.out⟩, ⟨by repeat (first | (with_reducible first | exact HB.out | apply below_alloc | apply pw_below_drewN | apply below_drew1 | refine below_set ?_ GE558.out | refine below_set ?_ GE570.out | refine below_set ?_ GE578.out | refine below_set ?_ GE586.out) | exact HB.out)⟩⟩
       case rest =>
        clear HC28
        try clear c1
        try clear c2
        try clear p2
        try clear c3
        try clear c4
        try clear c5
        try clear p5
        try clear q5
        try clear hx5
        try clear p6
        try clear c7
        try clear c9
        try clear c10
        try clear c10b0
        try clear c10b1
        try clear c17
        try clear c18
        try clear c18b0
        try clear c19
        try clear c19b0
        try clear c20
        try clear c20b0
        try clear c22
        try clear c22b0
        try clear c33
        try clear c39
        try clear c40
        try clear c47
        try clear c48
        try clear c49
        try clear c52
        try clear c52b0
        try clear c52b1
        try clear hcz11_0
        try clear hcz11_1
        try clear hcz13_0
        try clear hcz13_1
        try clear hcz15_0
        try clear hcz15_1
        try clear hcz21_0
        try clear hcz21_1
        try clear hcz23_0
        try clear hcz23_1
        try clear hcz24_0
        try clear hcz24_1
        try clear hcz29_0
        try clear hcz29_1
        try clear hcz34_0
        try clear hcz34_1
        try clear hcz41_0
        try clear hcz41_1
        try clear hcz43_0
        try clear hcz43_1
        try clear hcz50_0
        try clear hcz50_1
        try clear hfz11_0
        try clear hfz11_1
        try clear hfz13_0
        try clear hfz13_1
        try clear hfz15_0
        try clear hfz15_1
        try clear hfz21_0
        try clear hfz21_1
        try clear hfz23_0
        try clear hfz23_1
        try clear hfz24_0
        try clear hfz24_1
        try clear hfz29_0
        try clear hfz29_1
        try clear hfz34_0
        try clear hfz34_1
        try clear hfz41_0
        try clear hfz41_1
        try clear hfz43_0
        try clear hfz43_1
        try clear hfz50_0
        try clear hfz50_1
        try clear hx561_0
        try clear hx562_0
        try clear p2
        try clear p561
        try clear p562
        try clear q561
        try clear q562
        obtain ⟨kq, x75_27, rfl, HA, HJ27, HO_571000, HO_571001, HO_579000, HO_579001, HO_587000, HO_587001, BK558, BK570, BK578, BK586, HB⟩ := hcut
        cases kq with
        | zero => exact absurd HA.out (by simp [fullerlaw03_TensorParts.j2])
        | succ kj27 =>
         have H := HA.out
         clear HA
         simp only [fullerlaw03_TensorParts.j2] at H
         by_cases c53 : x75_27 = true
         ·subst c53
          have H1 : (some t559) = some r := by rw [if_pos rfl] at H; exact H
          clear H
          have H := H1
          clear H1
          obtain rfl := Option.some.inj H
          go_wp2
          go_ret
          exact ⟨by first | rfl | (simp [errW_none, errW_some] <;> rfl) | (simp [*, errW_none, errW_some] <;> rfl), by repeat (first | (with_reducible first | exact HB.out | apply below_alloc | apply pw_below_drewN | apply below_drew1 | refine below_set ?_ GE558.out | refine below_set ?_ GE570.out | refine below_set ?_ GE578.out | refine below_set ?_ GE586.out) | exact HB.out)⟩
         ·replace c53 := Bool.eq_false_iff.mpr c53
          subst c53
          have H1 : (if t559 = true then (if t585 = 0 then ((fullerref03_Same.f kj27 t571 t574 t579 t582).bind fun t587 => (if t587 = true then ((tensor_Check.f kj27 t571 t574).bind fun t588 => (some t588)) else (some false))) else (some false)) else (some false)) = some r := by rw [if_neg (show ¬ (false = true) by decide)] at H; exact H
          clear H
          have H := H1
          clear H1
          by_cases c54 : t559 = true
          ·subst c54
           have H1 : (if t585 = 0 then ((fullerref03_Same.f kj27 t571 t574 t579 t582).bind fun t587 => (if t587 = true then ((tensor_Check.f kj27 t571 t574).bind fun t588 => (some t588)) else (some false))) else (some false)) = some r := by rw [if_pos rfl] at H; exact H
           clear H
           have H := H1
           clear H1
           by_cases c55 : t585 = 0
           ·rw [if_pos c55] at H
            have c55b0 : (t585 == 0) = true := beq_iff_eq.mpr c55
            have c55b1 : (t585 != 0) = false := bne_eq_false_iff_eq.mpr c55
            clear c55
            replace H := Option.bind_eq_some_iff.mp H
            obtain ⟨t587, A560, H⟩ := H
            replace H : (if t587 = true then ((tensor_Check.f kj27 t571 t574).bind fun t588 => (some t588)) else (some false)) = some r := H
            have A56 := Aside0.mk A560
            clear A560
            by_cases c57 : t587 = true
            ·subst c57
             have H1 : ((tensor_Check.f kj27 t571 t574).bind fun t588 => (some t588)) = some r := by rw [if_pos rfl] at H; exact H
             clear H
             have H := H1
             clear H1
             replace H := Option.bind_eq_some_iff.mp H
             obtain ⟨t588, A580, H⟩ := H
             replace H : (some t588) = some r := H
             have A58 := Aside0.mk A580
             clear A580
             obtain rfl := Option.some.inj H
             have hnb59 := NB578_558.out
             have hnc59 := NB558_578.out
             have hnb60 := NB578_570.out
             have hnc60 := NB570_578.out
             have hnb61 := NB578_586.out
             have hnc61 := NB586_578.out
             have hcz62_0 : wc.cell? ⟨gb578, 0, none⟩ = some (.slice Ao38 t571.length co38) := (blk_cell BK578.out 0).trans rfl
             have hcz62_1 : wc.cell? ⟨gb578, 1, none⟩ = some (.slice Ao42 t574.length co42) := (blk_cell BK578.out 1).trans rfl
             have hfz62_0 := blk_frozen BK578.out 0
             have hfz62_1 := blk_frozen BK578.out 1
             have hnb63 := NB586_558.out
             have hnc63 := NB558_586.out
             have hnb64 := NB586_570.out
             have hnc64 := NB570_586.out
             have hcz65_0 : wc.cell? ⟨gb586, 0, none⟩ = some (.slice Ao46 t579.length co46) := (blk_cell BK586.out 0).trans rfl
             have hcz65_1 : wc.cell? ⟨gb586, 1, none⟩ = some (.slice Ao51 t582.length co51) := (blk_cell BK586.out 1).trans rfl
             have hfz65_0 := blk_frozen BK586.out 0
             have hfz65_1 := blk_frozen BK586.out 1
             go_wp2_with (first | (go_at_call 13; (with_reducible refine (fullerref03_Same.calls kj27 _ _ t571 _ _ t574 _ _ t579 _ _ t582 true _ ?side1 ?side2 ?side3 ?side4 ?side5 ?side6 ?side7 ?side8 A56.out).mono ?_); (case side1 => exact mvC_ ((Kd.R_reads' HO_579000.out).2.2)); (case side2 => exact (Kd.R_reads' HO_579000.out).2.1); (case side3 => exact mvC_ ((Kd.R_reads' HO_579001.out).2.2)); (case side4 => exact (Kd.R_reads' HO_579001.out).2.1); (case side5 => exact mvC_ ((Kd.R_reads' HO_587000.out).2.2)); (case side6 => exact (Kd.R_reads' HO_587000.out).2.1); (case side7 => exact mvC_ ((Kd.R_reads' HO_587001.out).2.2)); (case side8 => exact (Kd.R_reads' HO_587001.out).2.1); rintro e w66 ⟨rfl, hb⟩; have n0_ := Aside0.mk (Kd.R_below (mvR_ HO_571000.out) hb); have n1_ := Aside0.mk (Kd.R_below (mvR_ HO_571001.out) hb); have n2_ := Aside0.mk (Kd.R_below (mvR_ HO_579000.out) hb); have n3_ := Aside0.mk (Kd.R_below (mvR_ HO_579001.out) hb); have n4_ := Aside0.mk (Kd.R_below (mvR_ HO_587000.out) hb); have n5_ := Aside0.mk (Kd.R_below (mvR_ HO_587001.out) hb); have n6_ := Aside0.mk (blk_below (g := gb558) (o := .cells #[.slice A0_0 l0_0.length c0_0, .slice A0_1 l0_1.length c0_1] 24 (0, 0)) (mvK_ BK558.out) hb); have n7_ := Aside0.mk (blk_below (g := gb570) (o := .cells #[.slice Ao32 t563.length co32, .slice Ao35 t566.length co35] 24 (0, 0)) (mvK_ BK570.out) hb); have n8_ := Aside0.mk (blk_below (g := gb578) (o := .cells #[.slice Ao38 t571.length co38, .slice Ao42 t574.length co42] 24 (0, 0)) (mvK_ BK578.out) hb); have n9_ := Aside0.mk (blk_below (g := gb586) (o := .cells #[.slice Ao46 t579.length co46, .slice Ao51 t582.length co51] 24 (0, 0)) (mvK_ BK586.out) hb); have n10_ := Aside0.mk (below_step (bq4_ HB.out GE558.out GE570.out GE578.out GE586.out) hb); clear HO_571000; clear HO_571001; clear HO_579000; clear HO_579001; clear HO_587000; clear HO_587001; clear BK558; clear BK570; clear BK578; clear BK586; clear HB; have HO_571000 := n0_; have HO_571001 := n1_; have HO_579000 := n2_; have HO_579001 := n3_; have HO_587000 := n4_; have HO_587001 := n5_; have BK558 := n6_; have BK570 := n7_; have BK578 := n8_; have BK586 := n9_; have HB := n10_; clear n0_ n1_ n2_ n3_ n4_ n5_ n6_ n7_ n8_ n9_ n10_; (try clear hb); have hcz67_0 : w66.cell? ⟨gb578, 0, none⟩ = some (.slice Ao38 t571.length co38) := (blk_cell BK578.out 0).trans rfl; have hcz67_1 : w66.cell? ⟨gb578, 1, none⟩ = some (.slice Ao42 t574.length co42) := (blk_cell BK578.out 1).trans rfl; have hfz67_0 := blk_frozen BK578.out 0; have hfz67_1 := blk_frozen BK578.out 1) | (go_at_call 22; (with_reducible refine (tensor_Check.calls kj27 _ _ t571 _ _ t574 t588 _ ?side1 ?side2 ?side3 ?side4 A58.out).mono ?_); (case side1 => exact mvC_ ((Kd.R_reads' HO_579000.out).2.2)); (case side2 => exact (Kd.R_reads' HO_579000.out).2.1); (case side3 => exact mvC_ ((Kd.R_reads' HO_579001.out).2.2)); (case side4 => exact (Kd.R_reads' HO_579001.out).2.1); rintro e w68 ⟨rfl, hb⟩; have n0_ := Aside0.mk (Kd.R_below (mvR_ HO_571000.out) hb); have n1_ := Aside0.mk (Kd.R_below (mvR_ HO_571001.out) hb); have n2_ := Aside0.mk (Kd.R_below (mvR_ HO_579000.out) hb); have n3_ := Aside0.mk (Kd.R_below (mvR_ HO_579001.out) hb); have n4_ := Aside0.mk (Kd.R_below (mvR_ HO_587000.out) hb); have n5_ := Aside0.mk (Kd.R_below (mvR_ HO_587001.out) hb); have n6_ := Aside0.mk (blk_below (g := gb558) (o := .cells #[.slice A0_0 l0_0.length c0_0, .slice A0_1 l0_1.length c0_1] 24 (0, 0)) (mvK_ BK558.out) hb); have n7_ := Aside0.mk (blk_below (g := gb570) (o := .cells #[.slice Ao32 t563.length co32, .slice Ao35 t566.length co35] 24 (0, 0)) (mvK_ BK570.out) hb); have n8_ := Aside0.mk (blk_below (g := gb578) (o := .cells #[.slice Ao38 t571.length co38, .slice Ao42 t574.length co42] 24 (0, 0)) (mvK_ BK578.out) hb); have n9_ := Aside0.mk (blk_below (g := gb586) (o := .cells #[.slice Ao46 t579.length co46, .slice Ao51 t582.length co51] 24 (0, 0)) (mvK_ BK586.out) hb); have n10_ := Aside0.mk (below_step (bq4_ HB.out GE558.out GE570.out GE578.out GE586.out) hb); clear HO_571000; clear HO_571001; clear HO_579000; clear HO_579001; clear HO_587000; clear HO_587001; clear BK558; clear BK570; clear BK578; clear BK586; clear HB; have HO_571000 := n0_; have HO_571001 := n1_; have HO_579000 := n2_; have HO_579001 := n3_; have HO_587000 := n4_; have HO_587001 := n5_; have BK558 := n6_; have BK570 := n7_; have BK578 := n8_; have BK586 := n9_; have HB := n10_; clear n0_ n1_ n2_ n3_ n4_ n5_ n6_ n7_ n8_ n9_ n10_; (try clear hb)))
             go_ret
             exact ⟨by first | rfl | (simp [errW_none, errW_some] <;> rfl) | (simp [*, errW_none, errW_some] <;> rfl), by repeat (first | (with_reducible first | exact HB.out | apply below_alloc | apply pw_below_drewN | apply below_drew1 | refine below_set ?_ GE558.out | refine below_set ?_ GE570.out | refine below_set ?_ GE578.out | refine below_set ?_ GE586.out) | exact HB.out)⟩
            ·replace c57 := Bool.eq_false_iff.mpr c57
             subst c57
             have H1 : (some false) = some r := by rw [if_neg (show ¬ (false = true) by decide)] at H; exact H
             clear H
             have H := H1
             clear H1
             obtain rfl := Option.some.inj H
             have hnb69 := NB578_558.out
             have hnc69 := NB558_578.out
             have hnb70 := NB578_570.out
             have hnc70 := NB570_578.out
             have hnb71 := NB578_586.out
             have hnc71 := NB586_578.out
             have hcz72_0 : wc.cell? ⟨gb578, 0, none⟩ = some (.slice Ao38 t571.length co38) := (blk_cell BK578.out 0).trans rfl
             have hcz72_1 : wc.cell? ⟨gb578, 1, none⟩ = some (.slice Ao42 t574.length co42) := (blk_cell BK578.out 1).trans rfl
             have hfz72_0 := blk_frozen BK578.out 0
             have hfz72_1 := blk_frozen BK578.out 1
             have hnb73 := NB586_558.out
             have hnc73 := NB558_586.out
             have hnb74 := NB586_570.out
             have hnc74 := NB570_586.out
             have hcz75_0 : wc.cell? ⟨gb586, 0, none⟩ = some (.slice Ao46 t579.length co46) := (blk_cell BK586.out 0).trans rfl
             have hcz75_1 : wc.cell? ⟨gb586, 1, none⟩ = some (.slice Ao51 t582.length co51) := (blk_cell BK586.out 1).trans rfl
             have hfz75_0 := blk_frozen BK586.out 0
             have hfz75_1 := blk_frozen BK586.out 1
             go_wp2_with (first | (go_at_call 13; (with_reducible refine (fullerref03_Same.calls kj27 _ _ t571 _ _ t574 _ _ t579 _ _ t582 false _ ?side1 ?side2 ?side3 ?side4 ?side5 ?side6 ?side7 ?side8 A56.out).mono ?_); (case side1 => exact mvC_ ((Kd.R_reads' HO_579000.out).2.2)); (case side2 => exact (Kd.R_reads' HO_579000.out).2.1); (case side3 => exact mvC_ ((Kd.R_reads' HO_579001.out).2.2)); (case side4 => exact (Kd.R_reads' HO_579001.out).2.1); (case side5 => exact mvC_ ((Kd.R_reads' HO_587000.out).2.2)); (case side6 => exact (Kd.R_reads' HO_587000.out).2.1); (case side7 => exact mvC_ ((Kd.R_reads' HO_587001.out).2.2)); (case side8 => exact (Kd.R_reads' HO_587001.out).2.1); rintro e w76 ⟨rfl, hb⟩; have n0_ := Aside0.mk (Kd.R_below (mvR_ HO_571000.out) hb); have n1_ := Aside0.mk (Kd.R_below (mvR_ HO_571001.out) hb); have n2_ := Aside0.mk (Kd.R_below (mvR_ HO_579000.out) hb); have n3_ := Aside0.mk (Kd.R_below (mvR_ HO_579001.out) hb); have n4_ := Aside0.mk (Kd.R_below (mvR_ HO_587000.out) hb); have n5_ := Aside0.mk (Kd.R_below (mvR_ HO_587001.out) hb); have n6_ := Aside0.mk (blk_below (g := gb558) (o := .cells #[.slice A0_0 l0_0.length c0_0, .slice A0_1 l0_1.length c0_1] 24 (0, 0)) (mvK_ BK558.out) hb); have n7_ := Aside0.mk (blk_below (g := gb570) (o := .cells #[.slice Ao32 t563.length co32, .slice Ao35 t566.length co35] 24 (0, 0)) (mvK_ BK570.out) hb); have n8_ := Aside0.mk (blk_below (g := gb578) (o := .cells #[.slice Ao38 t571.length co38, .slice Ao42 t574.length co42] 24 (0, 0)) (mvK_ BK578.out) hb); have n9_ := Aside0.mk (blk_below (g := gb586) (o := .cells #[.slice Ao46 t579.length co46, .slice Ao51 t582.length co51] 24 (0, 0)) (mvK_ BK586.out) hb); have n10_ := Aside0.mk (below_step (bq4_ HB.out GE558.out GE570.out GE578.out GE586.out) hb); clear HO_571000; clear HO_571001; clear HO_579000; clear HO_579001; clear HO_587000; clear HO_587001; clear BK558; clear BK570; clear BK578; clear BK586; clear HB; have HO_571000 := n0_; have HO_571001 := n1_; have HO_579000 := n2_; have HO_579001 := n3_; have HO_587000 := n4_; have HO_587001 := n5_; have BK558 := n6_; have BK570 := n7_; have BK578 := n8_; have BK586 := n9_; have HB := n10_; clear n0_ n1_ n2_ n3_ n4_ n5_ n6_ n7_ n8_ n9_ n10_; (try clear hb)))
             go_ret
             exact ⟨by first | rfl | (simp [errW_none, errW_some] <;> rfl) | (simp [*, errW_none, errW_some] <;> rfl), by repeat (first | (with_reducible first | exact HB.out | apply below_alloc | apply pw_below_drewN | apply below_drew1 | refine below_set ?_ GE558.out | refine below_set ?_ GE570.out | refine below_set ?_ GE578.out | refine below_set ?_ GE586.out) | exact HB.out)⟩
           ·rw [if_neg c55] at H
            have c55b0 : (t585 == 0) = false := beq_eq_false_iff_ne.mpr c55
            have c55b1 : (t585 != 0) = true := bne_iff_ne.mpr c55
            obtain rfl := Option.some.inj H
            go_wp2
            go_ret
            exact ⟨by first | rfl | (simp [errW_none, errW_some] <;> rfl) | (simp [*, errW_none, errW_some] <;> rfl), by repeat (first | (with_reducible first | exact HB.out | apply below_alloc | apply pw_below_drewN | apply below_drew1 | refine below_set ?_ GE558.out | refine below_set ?_ GE570.out | refine below_set ?_ GE578.out | refine below_set ?_ GE586.out) | exact HB.out)⟩
          ·replace c54 := Bool.eq_false_iff.mpr c54
           subst c54
           have H1 : (some false) = some r := by rw [if_neg (show ¬ (false = true) by decide)] at H; exact H
           clear H
           have H := H1
           clear H1
           obtain rfl := Option.some.inj H
           go_wp2
           go_ret
           exact ⟨by first | rfl | (simp [errW_none, errW_some] <;> rfl) | (simp [*, errW_none, errW_some] <;> rfl), by repeat (first | (with_reducible first | exact HB.out | apply below_alloc | apply pw_below_drewN | apply below_drew1 | refine below_set ?_ GE558.out | refine below_set ?_ GE570.out | refine below_set ?_ GE578.out | refine below_set ?_ GE586.out) | exact HB.out)⟩

/-- THE ONE PURE STATEMENT of fullerlaw03_TensorParts: yours. -/
def fullerlaw03_TensorParts.Pure : Prop := ∀ (l0_0 : List Int) (l0_1 : List Int) (l1 : List Int) (l2 : List Int), (l0_0.length * 8 ≤ 140737488351232 ∧ ∀ x_ ∈ l0_0, (Lit.int .i64 x_).wf = true) → (l0_1.length * 8 ≤ 140737488351232 ∧ ∀ x_ ∈ l0_1, (Lit.int .i64 x_).wf = true) → (l1.length * 8 ≤ 140737488351232 ∧ ∀ x_ ∈ l1, (Lit.int .i64 x_).wf = true) → (l2.length * 8 ≤ 140737488351232 ∧ ∀ x_ ∈ l2, (Lit.int .i64 x_).wf = true) → ∃ k, fullerlaw03_TensorParts.f k l0_0 l0_1 l1 l2 = some true
theorem fullerlaw03_TensorParts.walk (P : fullerlaw03_TensorParts.Pure) (A0_0 : Option Addr) (c0_0 : Nat) (l0_0 : List Int) (A0_1 : Option Addr) (c0_1 : Nat) (l0_1 : List Int) (A1 : Option Addr) (c1 : Nat) (l1 : List Int) (A2 : Option Addr) (c2 : Nat) (l2 : List Int) (w : World) (hr0_0 : Kd.C (Kd.int .i64) w A0_0 l0_0.length l0_0) (hc0_0 : l0_0.length ≤ c0_0) (hr0_1 : Kd.C (Kd.int .i64) w A0_1 l0_1.length l0_1) (hc0_1 : l0_1.length ≤ c0_1) (hr1 : Kd.C (Kd.int .i64) w A1 l1.length l1) (hc1 : l1.length ≤ c1) (hr2 : Kd.C (Kd.int .i64) w A2 l2.length l2) (hc2 : l2.length ≤ c2) (hg0_0 : l0_0.length * 8 ≤ 140737488351232 ∧ ∀ x_ ∈ l0_0, (Lit.int .i64 x_).wf = true) (hg0_1 : l0_1.length * 8 ≤ 140737488351232 ∧ ∀ x_ ∈ l0_1, (Lit.int .i64 x_).wf = true) (hg1 : l1.length * 8 ≤ 140737488351232 ∧ ∀ x_ ∈ l1, (Lit.int .i64 x_).wf = true) (hg2 : l2.length * 8 ≤ 140737488351232 ∧ ∀ x_ ∈ l2, (Lit.int .i64 x_).wf = true) :
  Calls Try.prog 7 #[.agg #[.slice A0_0 l0_0.length c0_0, .slice A0_1 l0_1.length c0_1], .slice A1 l1.length c1, .slice A2 l2.length c2] w fun e w' => e = .returned (.bool true) ∧ Below w.heap.size w w' := by
 obtain ⟨k, h⟩ := P l0_0 l0_1 l1 l2 hg0_0 hg0_1 hg1 hg2
 refine (fullerlaw03_TensorParts.calls k _ _ l0_0 _ _ l0_1 _ _ l1 _ _ l2 true w hr0_0 hc0_0 hr0_1 hc0_1 hr1 hc1 hr2 hc2 h).mono ?_
 rintro e w' ⟨rfl, hd⟩
 exact ⟨rfl, hd⟩

end Go.Proofs.Ytoiaegbhnpddlaa.A
