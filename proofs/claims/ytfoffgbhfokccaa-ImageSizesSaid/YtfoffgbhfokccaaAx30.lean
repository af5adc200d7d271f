/- Lean functions that answer as the Go functions do, and the proofs that they do; no conditions. Written by this session's own driver: a scratch copy of the kit's print with the session's additions (wip/xprint). -/
import Derived.Test.YtfoffgbhfokccaaAx0
import Derived.Test.YtfoffgbhfokccaaAx2
import Derived.Test.YtfoffgbhfokccaaAx7
import Derived.Test.YtfoffgbhfokccaaAx12
import Derived.Test.YtfoffgbhfokccaaAx15
namespace Go.Proofs.Ytfoffgbhfokccaa.A
open Go.RowKit Go.Proofs.YtfoffgbhfokccaaW.PrintWords Go.Proofs.YtfoffgbhfokccaaW.PrintLast Go.Proofs.YtfoffgbhfokccaaW.PrintMore
attribute [local go_sem] max2_int min2_int max_two min_two max_three min_three max_four min_four   -- for this text's walks alone
set_option linter.unusedVariables false
set_option linter.unusedSimpArgs false

/-! ### fullerlaw09_ImageSizes: function 5 -/
def fullerlaw09_ImageSizes.j0 : Nat → Int → Bool → Bool → List Int → List Int → Option (Bool)
  | 0, _, _, _, _, _ => none
  | k + 1, x1, x5, x19, x412000, x412001 => if x19 = true then (some x5) else ((image_Put.f k ([] : List Int) x412000 x412001).bind fun bt415 => (if bt415.2 = 0 then (if (bt415.1.length : Int) = (wrap64 ((wrap64 (1 + (x412000.length : Int))) + (wrap64 (8 * (x412001.length : Int))))) then (if (bt415.1.length : Int) = 0 then (none) else (if 0 ≤ (Int.tmod (wrap64 (x1)) (bt415.1.length : Int)) then (if (Int.tmod (wrap64 (x1)) (bt415.1.length : Int)) ≤ (bt415.1.length : Int) then ((image_Take.f k (bt415.1.take ((Int.tmod (wrap64 (x1)) (bt415.1.length : Int)) : Int).toNat)).bind fun bt423 => (if x5 = true then (if bt423.2.2.2 = 50 then (some ((bt423.2.1.length : Int) == 0)) else (some false)) else (some false))) else (none)) else (none))) else (some false)) else (some false)))
def fullerlaw09_ImageSizes.f (k : Nat) (l0_0 : List Int) (l0_1 : List Int) (a1 : Int) : Option (Bool) := (fullerlaw09_awake.f k).bind fun t412 => ((fullerref03_Few.f l0_0 l0_1).bind fun t413 => (if t413 = true then ((tensor_Check.f k l0_0 l0_1).bind fun t414 => (fullerlaw09_ImageSizes.j0 k a1 t412 (!t414) l0_0 l0_1)) else (fullerlaw09_ImageSizes.j0 k a1 t412 true l0_0 l0_1)))
theorem fullerlaw09_ImageSizes.mono_l : ∀ k, (∀ y0 y1 y2 y3 y4, LeO (fullerlaw09_ImageSizes.j0 k y0 y1 y2 y3 y4) (fullerlaw09_ImageSizes.j0 (k + 1) y0 y1 y2 y3 y4))
  | 0 => fun _ _ _ _ _ r h => by simp [fullerlaw09_ImageSizes.j0] at h
  | k + 1 => by
    have ih0 := fullerlaw09_ImageSizes.mono_l k
    · intro y0 y1 y2 y3 y4
      unfold fullerlaw09_ImageSizes.j0
      repeat' first
      | (with_reducible exact ih0 _ _ _ _ _)
      | (with_reducible exact fullerlaw09_awake.mono _)
      | (with_reducible exact image_Put.mono _ _ _ _)
      | (with_reducible exact image_Take.mono _ _)
      | (with_reducible exact tensor_Check.mono _ _ _)
      | (with_reducible exact LeO.refl _)
      | (with_reducible exact LeO.none _)
      | (with_reducible refine LeO.ite ?_ ?_)
      | (with_reducible refine LeO.bind ?_ (fun _ => ?_))
      | exact ih0 _ _ _ _ _
      | exact fullerlaw09_awake.mono _
      | exact image_Put.mono _ _ _ _
      | exact image_Take.mono _ _
      | exact tensor_Check.mono _ _ _
      | exact LeO.none _
      | refine LeO.ite ?_ ?_
      | refine LeO.bind ?_ (fun _ => ?_)
theorem fullerlaw09_ImageSizes.mono : ∀ a0 a1 a2 k, LeO (fullerlaw09_ImageSizes.f k a0 a1 a2) (fullerlaw09_ImageSizes.f (k + 1) a0 a1 a2) := by
  intro a0 a1 a2 k
  have ih0 := fullerlaw09_ImageSizes.mono_l k
  unfold fullerlaw09_ImageSizes.f
  repeat' first
      | (with_reducible exact ih0 _ _ _ _ _)
      | (with_reducible exact fullerlaw09_awake.mono _)
      | (with_reducible exact image_Put.mono _ _ _ _)
      | (with_reducible exact image_Take.mono _ _)
      | (with_reducible exact tensor_Check.mono _ _ _)
      | (with_reducible exact LeO.refl _)
      | (with_reducible exact LeO.none _)
      | (with_reducible refine LeO.ite ?_ ?_)
      | (with_reducible refine LeO.bind ?_ (fun _ => ?_))
      | exact ih0 _ _ _ _ _
      | exact fullerlaw09_awake.mono _
      | exact image_Put.mono _ _ _ _
      | exact image_Take.mono _ _
      | exact tensor_Check.mono _ _ _
      | exact LeO.none _
      | refine LeO.ite ?_ ?_
      | refine LeO.bind ?_ (fun _ => ?_)
set_option maxHeartbeats 8000000 in
set_option maxRecDepth 100000 in
theorem fullerlaw09_ImageSizes.calls (k : Nat) (A0_0 : Option Addr) (c0_0 : Nat) (l0_0 : List Int) (A0_1 : Option Addr) (c0_1 : Nat) (l0_1 : List Int) (a1 : Int) (r : Bool) (w : World) (hr0_0 : Kd.C (Kd.int .i64) w A0_0 l0_0.length l0_0) (hc0_0 : l0_0.length ≤ c0_0) (hr0_1 : Kd.C (Kd.int .i64) w A0_1 l0_1.length l0_1) (hc0_1 : l0_1.length ≤ c0_1) (h : fullerlaw09_ImageSizes.f k l0_0 l0_1 a1 = some r) :
    Calls Try.prog 5 #[.agg #[.slice A0_0 l0_0.length c0_0, .slice A0_1 l0_1.length c0_1], .int .u16 a1] w fun e w' => e = .returned (.bool r) ∧ Below w.heap.size w w' := by
  have hu26 := Try.underlying26
  have HR0_0 := Aside0.mk hr0_0
  have HC0_0 := Aside0.mk hc0_0
  clear hr0_0 hc0_0
  have HR0_1 := Aside0.mk hr0_1
  have HC0_1 := Aside0.mk hc0_1
  clear hr0_1 hc0_1
  have HB := Aside0.mk (Below.refl w.heap.size w)
  have H : ((fullerlaw09_awake.f k).bind fun t412 => ((fullerref03_Few.f l0_0 l0_1).bind fun t413 => (if t413 = true then ((tensor_Check.f k l0_0 l0_1).bind fun t414 => (fullerlaw09_ImageSizes.j0 k a1 t412 (!t414) l0_0 l0_1)) else (fullerlaw09_ImageSizes.j0 k a1 t412 true l0_0 l0_1)))) = some r := h
  clear h
  replace H := Option.bind_eq_some_iff.mp H
  obtain ⟨t412, A30, H⟩ := H
  replace H : ((fullerref03_Few.f l0_0 l0_1).bind fun t413 => (if t413 = true then ((tensor_Check.f k l0_0 l0_1).bind fun t414 => (fullerlaw09_ImageSizes.j0 k a1 t412 (!t414) l0_0 l0_1)) else (fullerlaw09_ImageSizes.j0 k a1 t412 true l0_0 l0_1))) = some r := H
  have A3 := Aside0.mk A30
  clear A30
  have HC4 := Aside0.mk H
  clear H
  go_enter Try.func5, Try.ntmps5
  go_upto_region 2 with (first | ((with_reducible refine gate_dst (N := 2) rfl ?_); (try (refine gate_guard (by rfl) ?_; dsimp only)); refine box_event ?hg (N := 2) ?hd (cs := #[.slice A0_0 l0_0.length c0_0, .slice A0_1 l0_1.length c0_1]) (t := 26) ?hr ?_; (case hd => rfl); (case hg => rfl); (case hr => first | (go_simp; done) | (go_simp; rfl)); intro gb411 hg w5 hbox hb; have n0_ := Aside0.mk (below_step (bq0_ HB.out) hb); have n1_ := Aside0.mk (hbox); have n2_ := Aside0.mk ((by rw [hg]; exact (below_size (bq0_ HB.out)) : w.heap.size ≤ gb411)); have n3_ := Aside0.mk ((by rw [hg]; exact (below_size (bq0_ HB.out)) : w.heap.size ≤ gb411)); clear HB; have HB := n0_; have BK411 := n1_; have GW411 := n2_; have GE411 := n3_; clear n0_ n1_ n2_ n3_; clear hb hbox hg) | ((with_reducible refine gate_callee (f := 8) rfl ?_); refine goesL_ (some 11) rfl rfl Try.func8 (by kernel_rfl) rfl #[] rfl (by (try simp only [List.map_toArray, List.map_cons, List.map_nil]); first | done | rfl | (simp only [List.length_drop, List.length_take]; rfl)) ?_; (with_reducible refine (fullerlaw09_awake.calls k  t412 _ A3.out).mono ?_); rintro e w6 ⟨rfl, hb⟩; refine ⟨_, rfl, ?_⟩; have n0_ := Aside0.mk (blk_below (g := gb411) (o := .cells #[.slice A0_0 l0_0.length c0_0, .slice A0_1 l0_1.length c0_1] 26 (0, 0)) (mvK_ BK411.out) hb); have n1_ := Aside0.mk (below_step (bq1_ HB.out GE411.out) hb); clear BK411; clear HB; have BK411 := n0_; have HB := n1_; clear n0_ n1_; (try clear hb)))
  (try simp only [Act.put, List.setIfInBounds_toArray, List.set_cons_zero, List.set_cons_succ])
  go_cut [19] (fun v19 wc => ∃ (kq : Nat) (x19_3 : Bool), v19 = .bool x19_3 ∧ Aside0 (fullerlaw09_ImageSizes.j0 kq a1 t412 x19_3 l0_0 l0_1 = some r) ∧ Aside0 (kq ≤ k) ∧ Aside0 (wc.heap[gb411]? = some (.cells #[(.slice A0_0 l0_0.length c0_0), (.slice A0_1 l0_1.length c0_1)] 26 (0, 0))) ∧ Aside0 (Below w.heap.size w wc))
  case first =>
    have H := HC4.out
    clear HC4
    replace H := Option.bind_eq_some_iff.mp H
    obtain ⟨t413, A70, H⟩ := H
    replace H : (if t413 = true then ((tensor_Check.f k l0_0 l0_1).bind fun t414 => (fullerlaw09_ImageSizes.j0 k a1 t412 (!t414) l0_0 l0_1)) else (fullerlaw09_ImageSizes.j0 k a1 t412 true l0_0 l0_1)) = some r := H
    have A7 := Aside0.mk A70
    clear A70
    by_cases c8 : t413 = true
    · subst c8
      have H1 : ((tensor_Check.f k l0_0 l0_1).bind fun t414 => (fullerlaw09_ImageSizes.j0 k a1 t412 (!t414) l0_0 l0_1)) = some r := by rw [if_pos rfl] at H; exact H
      clear H
      have H := H1
      clear H1
      replace H := Option.bind_eq_some_iff.mp H
      obtain ⟨t414, A90, H⟩ := H
      replace H : (fullerlaw09_ImageSizes.j0 k a1 t412 (!t414) l0_0 l0_1) = some r := H
      have A9 := Aside0.mk A90
      clear A90
      have H' := Aside0.mk H
      clear H
      have hcz10_0 : w6.cell? ⟨gb411, 0, none⟩ = some (.slice A0_0 l0_0.length c0_0) := (blk_cell BK411.out 0).trans rfl
      have hcz10_1 : w6.cell? ⟨gb411, 1, none⟩ = some (.slice A0_1 l0_1.length c0_1) := (blk_cell BK411.out 1).trans rfl
      have hfz10_0 := blk_frozen BK411.out 0
      have hfz10_1 := blk_frozen BK411.out 1
      go_wp2_with (first | ((with_reducible refine gate_callee (f := 10) rfl ?_); refine goesL_ (some 13) rfl rfl Try.func10 (by kernel_rfl) rfl #[.agg #[.slice A0_0 l0_0.length c0_0, .slice A0_1 l0_1.length c0_1]] rfl (by (try simp only [List.map_toArray, List.map_cons, List.map_nil]); first | done | rfl | (simp only [List.length_drop, List.length_take]; rfl)) ?_; (with_reducible refine (fullerref03_Few.calls _ _ l0_0 _ _ l0_1 true _ ?side1 ?side2 ?side3 ?side4 A7.out).mono ?_); (case side1 => exact mvC_ ((Kd.C_below HR0_0.out HB.out))); (case side2 => exact HC0_0.out); (case side3 => exact mvC_ ((Kd.C_below HR0_1.out HB.out))); (case side4 => exact HC0_1.out); rintro e w11 ⟨rfl, hb⟩; refine ⟨_, rfl, ?_⟩; have n0_ := Aside0.mk (blk_below (g := gb411) (o := .cells #[.slice A0_0 l0_0.length c0_0, .slice A0_1 l0_1.length c0_1] 26 (0, 0)) (mvK_ BK411.out) hb); have n1_ := Aside0.mk (below_step (bq1_ HB.out GE411.out) hb); clear BK411; clear HB; have BK411 := n0_; have HB := n1_; clear n0_ n1_; (try clear hb); have hcz12_0 : w11.cell? ⟨gb411, 0, none⟩ = some (.slice A0_0 l0_0.length c0_0) := (blk_cell BK411.out 0).trans rfl; have hcz12_1 : w11.cell? ⟨gb411, 1, none⟩ = some (.slice A0_1 l0_1.length c0_1) := (blk_cell BK411.out 1).trans rfl; have hfz12_0 := blk_frozen BK411.out 0; have hfz12_1 := blk_frozen BK411.out 1) | (go_at_call 21; (with_reducible refine (tensor_Check.calls k _ _ l0_0 _ _ l0_1 t414 _ ?side1 ?side2 ?side3 ?side4 A9.out).mono ?_); (case side1 => exact mvC_ ((Kd.C_below HR0_0.out HB.out))); (case side2 => exact HC0_0.out); (case side3 => exact mvC_ ((Kd.C_below HR0_1.out HB.out))); (case side4 => exact HC0_1.out); rintro e w13 ⟨rfl, hb⟩; have n0_ := Aside0.mk (blk_below (g := gb411) (o := .cells #[.slice A0_0 l0_0.length c0_0, .slice A0_1 l0_1.length c0_1] 26 (0, 0)) (mvK_ BK411.out) hb); have n1_ := Aside0.mk (below_step (bq1_ HB.out GE411.out) hb); clear BK411; clear HB; have BK411 := n0_; have HB := n1_; clear n0_ n1_; (try clear hb)))
      go_meet
      case rel => exact ⟨_, (!t414), (by first | rfl | (simp; done) | (simp [*]; done)), H', ⟨by first | omega | exact Nat.le_refl _⟩, ⟨by (with_reducible repeat (first | refine blk_drewN ?_ _ | refine blk_drew ?_ | refine blk_alloc ?_ _)); exact BK411.out⟩, ⟨by repeat (first | (with_reducible first | exact HB.out | apply below_alloc | apply pw_below_drewN | apply below_drew1 | refine below_set ?_ GE411.out) | exact HB.out)⟩⟩
    · replace c8 := Bool.eq_false_iff.mpr c8
      subst c8
      have H1 : (fullerlaw09_ImageSizes.j0 k a1 t412 true l0_0 l0_1) = some r := by rw [if_neg (show ¬ (false = true) by decide)] at H; exact H
      clear H
      have H := H1
      clear H1
      have H' := Aside0.mk H
      clear H
      have hcz14_0 : w6.cell? ⟨gb411, 0, none⟩ = some (.slice A0_0 l0_0.length c0_0) := (blk_cell BK411.out 0).trans rfl
      have hcz14_1 : w6.cell? ⟨gb411, 1, none⟩ = some (.slice A0_1 l0_1.length c0_1) := (blk_cell BK411.out 1).trans rfl
      have hfz14_0 := blk_frozen BK411.out 0
      have hfz14_1 := blk_frozen BK411.out 1
      go_wp2_with (first | ((with_reducible refine gate_callee (f := 10) rfl ?_); refine goesL_ (some 13) rfl rfl Try.func10 (by kernel_rfl) rfl #[.agg #[.slice A0_0 l0_0.length c0_0, .slice A0_1 l0_1.length c0_1]] rfl (by (try simp only [List.map_toArray, List.map_cons, List.map_nil]); first | done | rfl | (simp only [List.length_drop, List.length_take]; rfl)) ?_; (with_reducible refine (fullerref03_Few.calls _ _ l0_0 _ _ l0_1 false _ ?side1 ?side2 ?side3 ?side4 A7.out).mono ?_); (case side1 => exact mvC_ ((Kd.C_below HR0_0.out HB.out))); (case side2 => exact HC0_0.out); (case side3 => exact mvC_ ((Kd.C_below HR0_1.out HB.out))); (case side4 => exact HC0_1.out); rintro e w15 ⟨rfl, hb⟩; refine ⟨_, rfl, ?_⟩; have n0_ := Aside0.mk (blk_below (g := gb411) (o := .cells #[.slice A0_0 l0_0.length c0_0, .slice A0_1 l0_1.length c0_1] 26 (0, 0)) (mvK_ BK411.out) hb); have n1_ := Aside0.mk (below_step (bq1_ HB.out GE411.out) hb); clear BK411; clear HB; have BK411 := n0_; have HB := n1_; clear n0_ n1_; (try clear hb)))
      go_meet
      case rel => exact ⟨_, (true), (by first | rfl | (simp; done) | (simp [*]; done)), H', ⟨by first | omega | exact Nat.le_refl _⟩, ⟨by (with_reducible repeat (first | refine blk_drewN ?_ _ | refine blk_drew ?_ | refine blk_alloc ?_ _)); exact BK411.out⟩, ⟨by repeat (first | (with_reducible first | exact HB.out | apply below_alloc | apply pw_below_drewN | apply below_drew1 | refine below_set ?_ GE411.out) | exact HB.out)⟩⟩
  case rest =>
    clear HC4
    try clear c1
    try clear p2
    try clear c5
    try clear c8
    try clear c10
    try clear hcz10_0
    try clear hcz10_1
    try clear hcz12_0
    try clear hcz12_1
    try clear hcz14_0
    try clear hcz14_1
    try clear hfz10_0
    try clear hfz10_1
    try clear hfz12_0
    try clear hfz12_1
    try clear hfz14_0
    try clear hfz14_1
    obtain ⟨kq, x19_3, rfl, HA, HJ3, BK411, HB⟩ := hcut
    cases kq with
    | zero => exact absurd HA.out (by simp [fullerlaw09_ImageSizes.j0])
    | succ kj3 =>
      have H := HA.out
      clear HA
      simp only [fullerlaw09_ImageSizes.j0] at H
      by_cases c16 : x19_3 = true
      · subst c16
        have H1 : (some t412) = some r := by rw [if_pos rfl] at H; exact H
        clear H
        have H := H1
        clear H1
        obtain rfl := Option.some.inj H
        go_wp2
        go_ret
        exact ⟨by first | rfl | (simp [errW_none, errW_some] <;> rfl) | (simp [*, errW_none, errW_some] <;> rfl), by repeat (first | (with_reducible first | exact HB.out | apply below_alloc | apply pw_below_drewN | apply below_drew1 | refine below_set ?_ GE411.out) | exact HB.out)⟩
      · replace c16 := Bool.eq_false_iff.mpr c16
        subst c16
        have H1 : ((image_Put.f kj3 ([] : List Int) l0_0 l0_1).bind fun bt415 => (if bt415.2 = 0 then (if (bt415.1.length : Int) = (wrap64 ((wrap64 (1 + (l0_0.length : Int))) + (wrap64 (8 * (l0_1.length : Int))))) then (if (bt415.1.length : Int) = 0 then (none) else (if 0 ≤ (Int.tmod (wrap64 (a1)) (bt415.1.length : Int)) then (if (Int.tmod (wrap64 (a1)) (bt415.1.length : Int)) ≤ (bt415.1.length : Int) then ((image_Take.f kj3 (bt415.1.take ((Int.tmod (wrap64 (a1)) (bt415.1.length : Int)) : Int).toNat)).bind fun bt423 => (if t412 = true then (if bt423.2.2.2 = 50 then (some ((bt423.2.1.length : Int) == 0)) else (some false)) else (some false))) else (none)) else (none))) else (some false)) else (some false))) = some r := by rw [if_neg (show ¬ (false = true) by decide)] at H; exact H
        clear H
        have H := H1
        clear H1
        replace H := Option.bind_eq_some_iff.mp H
        obtain ⟨⟨t415, t418⟩, A170, H⟩ := H
        replace H : (if t418 = 0 then (if (t415.length : Int) = (wrap64 ((wrap64 (1 + (l0_0.length : Int))) + (wrap64 (8 * (l0_1.length : Int))))) then (if (t415.length : Int) = 0 then (none) else (if 0 ≤ (Int.tmod (wrap64 (a1)) (t415.length : Int)) then (if (Int.tmod (wrap64 (a1)) (t415.length : Int)) ≤ (t415.length : Int) then ((image_Take.f kj3 (t415.take ((Int.tmod (wrap64 (a1)) (t415.length : Int)) : Int).toNat)).bind fun bt423 => (if t412 = true then (if bt423.2.2.2 = 50 then (some ((bt423.2.1.length : Int) == 0)) else (some false)) else (some false))) else (none)) else (none))) else (some false)) else (some false)) = some r := H
        have A17 := Aside0.mk A170
        clear A170
        by_cases c18 : t418 = 0
        · rw [if_pos c18] at H
          have c18b0 : (t418 == 0) = true := beq_iff_eq.mpr c18
          have c18b1 : (t418 != 0) = false := bne_eq_false_iff_eq.mpr c18
          clear c18
          by_cases c19 : (t415.length : Int) = (wrap64 ((wrap64 (1 + (l0_0.length : Int))) + (wrap64 (8 * (l0_1.length : Int)))))
          · rw [if_pos c19] at H
            have c19b0 : ((t415.length : Int) == (wrap64 ((wrap64 (1 + (l0_0.length : Int))) + (wrap64 (8 * (l0_1.length : Int)))))) = true := beq_iff_eq.mpr c19
            have c19b1 : ((t415.length : Int) != (wrap64 ((wrap64 (1 + (l0_0.length : Int))) + (wrap64 (8 * (l0_1.length : Int)))))) = false := bne_eq_false_iff_eq.mpr c19
            clear c19
            by_cases c20 : (t415.length : Int) = 0
            · rw [if_pos c20] at H
              exact absurd H (by simp)
            · rw [if_neg c20] at H
              have c20b0 : ((t415.length : Int) == 0) = false := beq_eq_false_iff_ne.mpr c20
              have c20b1 : ((t415.length : Int) != 0) = true := bne_iff_ne.mpr c20
              have c20b2 : ¬ (t415 = []) := fun h_ => c20 (by rw [h_]; rfl)
              obtain ⟨ji21, hji21⟩ : ∃ j_ : Int, (Int.tmod (wrap64 (a1)) (t415.length : Int)) = j_ := ⟨_, rfl⟩
              replace H : (if 0 ≤ (ji21) then (if (ji21) ≤ (t415.length : Int) then ((image_Take.f kj3 (t415.take ((ji21) : Int).toNat)).bind fun bt423 => (if t412 = true then (if bt423.2.2.2 = 50 then (some ((bt423.2.1.length : Int) == 0)) else (some false)) else (some false))) else (none)) else (none)) = some r := by first | (rw [hji21] at H; exact H) | (simp only [hji21] at H ⊢; exact H)
              (try rw [hji21] at A17)
              by_cases c22 : 0 ≤ (ji21)
              · rw [if_pos c22] at H
                have c22b0 := eq_true c22
                have c22b1 : decide (0 ≤ (ji21)) = true := decide_eq_true c22
                clear c22
                by_cases c23 : (ji21) ≤ (t415.length : Int)
                · rw [if_pos c23] at H
                  have c23b0 := eq_true c23
                  have c23b1 : decide ((ji21) ≤ (t415.length : Int)) = true := decide_eq_true c23
                  clear c23
                  obtain ⟨y419, hy419⟩ : ∃ y_ : List Int, y_ = (t415.take ((ji21) : Int).toNat) := ⟨_, rfl⟩
                  replace H : ((image_Take.f kj3 y419).bind fun bt423 => (if t412 = true then (if bt423.2.2.2 = 50 then (some ((bt423.2.1.length : Int) == 0)) else (some false)) else (some false))) = some r := by first | (rw [hy419]; with_reducible exact H) | (have H2_ := (Option.bind_some _ _).symm.trans H; rw [hy419]; with_reducible exact H2_) | (have H2_ := (Option.bind_some _ _).symm.trans H; with_reducible exact H2_) | with_reducible exact H | (rw [hy419]; exact H) | exact H
                  have Ny419 := Aside0.mk hy419
                  clear hy419
                  replace H := Option.bind_eq_some_iff.mp H
                  obtain ⟨⟨t423, t426, t429, t432⟩, A240, H⟩ := H
                  replace H : (if t412 = true then (if t432 = 50 then (some ((t426.length : Int) == 0)) else (some false)) else (some false)) = some r := H
                  have A24 := Aside0.mk A240
                  clear A240
                  by_cases c25 : t412 = true
                  · subst c25
                    have H1 : (if t432 = 50 then (some ((t426.length : Int) == 0)) else (some false)) = some r := by rw [if_pos rfl] at H; exact H
                    clear H
                    have H := H1
                    clear H1
                    by_cases c26 : t432 = 50
                    · rw [if_pos c26] at H
                      have c26b0 : (t432 == 50) = true := beq_iff_eq.mpr c26
                      have c26b1 : (t432 != 50) = false := bne_eq_false_iff_eq.mpr c26
                      clear c26
                      obtain rfl := Option.some.inj H
                      have hcz27_0 : wc.cell? ⟨gb411, 0, none⟩ = some (.slice A0_0 l0_0.length c0_0) := (blk_cell BK411.out 0).trans rfl
                      have hcz27_1 : wc.cell? ⟨gb411, 1, none⟩ = some (.slice A0_1 l0_1.length c0_1) := (blk_cell BK411.out 1).trans rfl
                      have hfz27_0 := blk_frozen BK411.out 0
                      have hfz27_1 := blk_frozen BK411.out 1
                      go_wp2_with (first | ((with_reducible refine gate_callee (f := 11) rfl ?_); refine goesL_ (some 23) rfl rfl Try.func11 (by kernel_rfl) rfl #[.slice none 0 0, .agg #[.slice A0_0 l0_0.length c0_0, .slice A0_1 l0_1.length c0_1]] rfl (by (try simp only [List.map_toArray, List.map_cons, List.map_nil]); first | done | rfl | (simp only [List.length_drop, List.length_take]; rfl)) ?_; (refine (image_Put.calls kj3 _ _ ([] : List Int) _ _ l0_0 _ _ l0_1 t415 t418 _ ?side1 ?side2 ?side3 ?side4 ?side5 ?side6 A17.out).mono ?_); (case side1 => exact Kd.C_nil _ _); (case side2 => exact Nat.le_refl _); (case side3 => exact mvC_ ((Kd.C_below HR0_0.out HB.out))); (case side4 => exact HC0_0.out); (case side5 => exact mvC_ ((Kd.C_below HR0_1.out HB.out))); (case side6 => exact HC0_1.out); rintro e w28 ⟨v416, rfl, ho0, hb⟩; refine ⟨_, rfl, ?_⟩; have n0_ := Aside0.mk (Kd.R_lower ho0 (below_size (bq1_ HB.out GE411.out))); have n1_ := Aside0.mk (blk_below (g := gb411) (o := .cells #[.slice A0_0 l0_0.length c0_0, .slice A0_1 l0_1.length c0_1] 26 (0, 0)) (mvK_ BK411.out) hb); have n2_ := Aside0.mk (below_step (bq1_ HB.out GE411.out) hb); clear BK411; clear HB; have HO417 := n0_; have BK411 := n1_; have HB := n2_; clear n0_ n1_ n2_; (try clear hb); (try clear ho0); obtain ⟨Ao29, co29, eo29⟩ := Kd.R_slice HO417.out; subst eo29; have hcz30_0 : w28.cell? ⟨gb411, 0, none⟩ = some (.slice A0_0 l0_0.length c0_0) := (blk_cell BK411.out 0).trans rfl; have hcz30_1 : w28.cell? ⟨gb411, 1, none⟩ = some (.slice A0_1 l0_1.length c0_1) := (blk_cell BK411.out 1).trans rfl; have hfz30_0 := blk_frozen BK411.out 0; have hfz30_1 := blk_frozen BK411.out 1; have q31 : ((ji21) : Int) ≤ ((t415.length : Int) : Int) := od_; obtain ⟨i031, hi031, _, hsz31, _⟩ := info_parts info5; have hroom31 : t415.length ≤ co29 := (Kd.R_reads' HO417.out).2.1; have hC31 : Kd.C (Kd.int .u8) _ Ao29 t415.length t415 := (Kd.R_reads' HO417.out).2.2; have hcut31 := cut_to (P := Try.prog) 22 5 .i64 Try.underlying22 hi031 Ao29 t415.length co29 (ji21) od_ q31 hroom31; have hr31 := Kd.C_take (m := ((ji21) : Int).toNat) hC31 (by omega); have hy31 : y419.length = ((ji21) : Int).toNat := (by rw [Ny419.out, List.length_take]; omega); rw [← Ny419.out] at hr31; rw [← hy31] at hcut31; have HR422 := Aside0.mk hr31; have HC422 := Aside0.mk (show y419.length ≤ co29 from by omega); clear hr31 hC31 hroom31 hi031 hsz31; have KY31 := Aside0.mk hy31; clear hy31; have KL31 := Aside0.mk (show ((ji21) : Int).toNat ≤ t415.length from by omega); replace q31 := eq_true q31) | ((with_reducible refine gate_callee (f := 15) rfl ?_); refine goesL_ (some 50) rfl rfl Try.func15 (by kernel_rfl) rfl #[.slice Ao29 y419.length co29] rfl (by (try simp only [List.map_toArray, List.map_cons, List.map_nil]); first | done | rfl | (simp only [List.length_drop, List.length_take]; rfl)) ?_; (with_reducible refine (image_Take.calls kj3 _ _ y419 t423 t426 t429 t432 _ ?side1 ?side2 A24.out).mono ?_); (case side1 => repeat (first | exact (by repeat (first | (with_reducible exact HR422.out) | (with_reducible refine Kd.C_alloc ?_ _) | (with_reducible refine Kd.C_drewN ?_ _) | (with_reducible refine Kd.C_drew ?_) | exact HR422.out)) | (with_reducible refine Kd.C_alloc ?_ _) | (with_reducible refine Kd.C_drewN ?_ _) | (with_reducible refine Kd.C_drew ?_))); (case side2 => exact HC422.out); rintro e w32 ⟨v424, v427, v430, rfl, ho0, ho1, ho2, hb⟩; refine ⟨_, rfl, ?_⟩; have n0_ := Aside0.mk (Kd.R_elder' (mvR_ HO417.out) (Kd.R_base ho2) hb); have n1_ := Aside0.mk (Kd.R_lower ho0 (below_size (bq1_ HB.out GE411.out))); have n2_ := Aside0.mk (Kd.R_lower ho1 (below_size (bq1_ HB.out GE411.out))); have n3_ := Aside0.mk (Kd.R_lower (Kd.R_new' ho2 (Kd.R_lt (mvR_ HO417.out))) (below_size (bq1_ HB.out GE411.out))); have n4_ := Aside0.mk (blk_below (g := gb411) (o := .cells #[.slice A0_0 l0_0.length c0_0, .slice A0_1 l0_1.length c0_1] 26 (0, 0)) (mvK_ BK411.out) hb); have n5_ := Aside0.mk (Kd.C_below (by repeat (first | (with_reducible exact HR422.out) | (with_reducible refine Kd.C_alloc ?_ _) | (with_reducible refine Kd.C_drewN ?_ _) | (with_reducible refine Kd.C_drew ?_) | exact HR422.out)) hb); have n6_ := Aside0.mk (below_step (bq1_ HB.out GE411.out) hb); clear HO417; clear BK411; clear HR422; clear HB; have HO417 := n0_; have HO425 := n1_; have HO428 := n2_; have HO431 := n3_; have BK411 := n4_; have HR422 := n5_; have HB := n6_; clear n0_ n1_ n2_ n3_ n4_ n5_ n6_; (try clear hb); (try clear ho0); (try clear ho1); (try clear ho2)) | ((with_reducible refine gate_dst (N := 8) rfl ?_); (try (refine gate_guard (by rfl) ?_; dsimp only)); refine box_event ?hg (N := 8) ?hd (cs := #[.slice none 0 0, .slice none 0 0]) (t := 26) ?hr ?_; (case hd => rfl); (case hg => rfl); (case hr => first | (go_simp; done) | (go_simp; rfl)); intro gb433 hg w33 hbox hb; have n0_ := Aside0.mk (Kd.R_below (mvR_ HO417.out) hb); have n1_ := Aside0.mk (Kd.R_below (mvR_ HO425.out) hb); have n2_ := Aside0.mk (Kd.R_below (mvR_ HO428.out) hb); have n3_ := Aside0.mk (Kd.R_below (mvR_ HO431.out) hb); have n4_ := Aside0.mk (blk_below (g := gb411) (o := .cells #[.slice A0_0 l0_0.length c0_0, .slice A0_1 l0_1.length c0_1] 26 (0, 0)) (mvK_ BK411.out) hb); have n5_ := Aside0.mk (Kd.C_below (by repeat (first | (with_reducible exact HR422.out) | (with_reducible refine Kd.C_alloc ?_ _) | (with_reducible refine Kd.C_drewN ?_ _) | (with_reducible refine Kd.C_drew ?_) | exact HR422.out)) hb); have n6_ := Aside0.mk (below_step (bq1_ HB.out GE411.out) hb); have n7_ := Aside0.mk (hbox); have n8_ := Aside0.mk ((by rw [hg]; exact (below_size (bq1_ HB.out GE411.out)) : w.heap.size ≤ gb433)); have n9_ := Aside0.mk ((by rw [hg]; exact (below_size (bq1_ HB.out GE411.out)) : w.heap.size ≤ gb433)); have n10_ := Aside0.mk ((by rw [hg]; exact Nat.ne_of_lt (blk_lt (g := gb411) (o := .cells #[.slice A0_0 l0_0.length c0_0, .slice A0_1 l0_1.length c0_1] 26 (0, 0)) (mvK_ BK411.out)) : gb411 ≠ gb433)); have n11_ := Aside0.mk ((by rw [hg]; exact Nat.ne_of_gt (blk_lt (g := gb411) (o := .cells #[.slice A0_0 l0_0.length c0_0, .slice A0_1 l0_1.length c0_1] 26 (0, 0)) (mvK_ BK411.out)) : gb433 ≠ gb411)); clear HO417; clear HO425; clear HO428; clear HO431; clear BK411; clear HR422; clear HB; have HO417 := n0_; have HO425 := n1_; have HO428 := n2_; have HO431 := n3_; have BK411 := n4_; have HR422 := n5_; have HB := n6_; have BK433 := n7_; have GW433 := n8_; have GE433 := n9_; have NB411_433 := n10_; have NB433_411 := n11_; clear n0_ n1_ n2_ n3_ n4_ n5_ n6_ n7_ n8_ n9_ n10_ n11_; clear hb hbox hg; obtain ⟨Ao34, co34, eo34⟩ := Kd.R_slice HO425.out; subst eo34; have hnb35 := NB433_411.out; have hnc35 := NB411_433.out; have hcz36_0 : w33.cell? ⟨gb433, 0, none⟩ = some (.slice none 0 0) := (blk_cell BK433.out 0).trans rfl; have hcz36_1 : w33.cell? ⟨gb433, 1, none⟩ = some (.slice none 0 0) := (blk_cell BK433.out 1).trans rfl; have hfz36_0 := blk_frozen BK433.out 0; have hfz36_1 := blk_frozen BK433.out 1; obtain ⟨Ao37, co37, eo37⟩ := Kd.R_slice HO428.out; subst eo37))
                      go_ret
                      exact ⟨by first | rfl | (simp [errW_none, errW_some] <;> rfl) | (simp only [← hji21]; first | rfl | (simp [errW_none, errW_some] <;> rfl)) | (simp [*, errW_none, errW_some] <;> rfl), by repeat (first | (with_reducible first | exact HB.out | apply below_alloc | apply pw_below_drewN | apply below_drew1 | refine below_set ?_ GE411.out | refine below_set ?_ GE433.out) | exact HB.out)⟩
                    · rw [if_neg c26] at H
                      have c26b0 : (t432 == 50) = false := beq_eq_false_iff_ne.mpr c26
                      have c26b1 : (t432 != 50) = true := bne_iff_ne.mpr c26
                      obtain rfl := Option.some.inj H
                      have hcz38_0 : wc.cell? ⟨gb411, 0, none⟩ = some (.slice A0_0 l0_0.length c0_0) := (blk_cell BK411.out 0).trans rfl
                      have hcz38_1 : wc.cell? ⟨gb411, 1, none⟩ = some (.slice A0_1 l0_1.length c0_1) := (blk_cell BK411.out 1).trans rfl
                      have hfz38_0 := blk_frozen BK411.out 0
                      have hfz38_1 := blk_frozen BK411.out 1
                      go_wp2_with (first | ((with_reducible refine gate_callee (f := 11) rfl ?_); refine goesL_ (some 23) rfl rfl Try.func11 (by kernel_rfl) rfl #[.slice none 0 0, .agg #[.slice A0_0 l0_0.length c0_0, .slice A0_1 l0_1.length c0_1]] rfl (by (try simp only [List.map_toArray, List.map_cons, List.map_nil]); first | done | rfl | (simp only [List.length_drop, List.length_take]; rfl)) ?_; (refine (image_Put.calls kj3 _ _ ([] : List Int) _ _ l0_0 _ _ l0_1 t415 t418 _ ?side1 ?side2 ?side3 ?side4 ?side5 ?side6 A17.out).mono ?_); (case side1 => exact Kd.C_nil _ _); (case side2 => exact Nat.le_refl _); (case side3 => exact mvC_ ((Kd.C_below HR0_0.out HB.out))); (case side4 => exact HC0_0.out); (case side5 => exact mvC_ ((Kd.C_below HR0_1.out HB.out))); (case side6 => exact HC0_1.out); rintro e w39 ⟨v416, rfl, ho0, hb⟩; refine ⟨_, rfl, ?_⟩; have n0_ := Aside0.mk (Kd.R_lower ho0 (below_size (bq1_ HB.out GE411.out))); have n1_ := Aside0.mk (blk_below (g := gb411) (o := .cells #[.slice A0_0 l0_0.length c0_0, .slice A0_1 l0_1.length c0_1] 26 (0, 0)) (mvK_ BK411.out) hb); have n2_ := Aside0.mk (below_step (bq1_ HB.out GE411.out) hb); clear BK411; clear HB; have HO417 := n0_; have BK411 := n1_; have HB := n2_; clear n0_ n1_ n2_; (try clear hb); (try clear ho0); obtain ⟨Ao40, co40, eo40⟩ := Kd.R_slice HO417.out; subst eo40; have hcz41_0 : w39.cell? ⟨gb411, 0, none⟩ = some (.slice A0_0 l0_0.length c0_0) := (blk_cell BK411.out 0).trans rfl; have hcz41_1 : w39.cell? ⟨gb411, 1, none⟩ = some (.slice A0_1 l0_1.length c0_1) := (blk_cell BK411.out 1).trans rfl; have hfz41_0 := blk_frozen BK411.out 0; have hfz41_1 := blk_frozen BK411.out 1; have q42 : ((ji21) : Int) ≤ ((t415.length : Int) : Int) := od_; obtain ⟨i042, hi042, _, hsz42, _⟩ := info_parts info5; have hroom42 : t415.length ≤ co40 := (Kd.R_reads' HO417.out).2.1; have hC42 : Kd.C (Kd.int .u8) _ Ao40 t415.length t415 := (Kd.R_reads' HO417.out).2.2; have hcut42 := cut_to (P := Try.prog) 22 5 .i64 Try.underlying22 hi042 Ao40 t415.length co40 (ji21) od_ q42 hroom42; have hr42 := Kd.C_take (m := ((ji21) : Int).toNat) hC42 (by omega); have hy42 : y419.length = ((ji21) : Int).toNat := (by rw [Ny419.out, List.length_take]; omega); rw [← Ny419.out] at hr42; rw [← hy42] at hcut42; have HR422 := Aside0.mk hr42; have HC422 := Aside0.mk (show y419.length ≤ co40 from by omega); clear hr42 hC42 hroom42 hi042 hsz42; have KY42 := Aside0.mk hy42; clear hy42; have KL42 := Aside0.mk (show ((ji21) : Int).toNat ≤ t415.length from by omega); replace q42 := eq_true q42) | ((with_reducible refine gate_callee (f := 15) rfl ?_); refine goesL_ (some 50) rfl rfl Try.func15 (by kernel_rfl) rfl #[.slice Ao40 y419.length co40] rfl (by (try simp only [List.map_toArray, List.map_cons, List.map_nil]); first | done | rfl | (simp only [List.length_drop, List.length_take]; rfl)) ?_; (with_reducible refine (image_Take.calls kj3 _ _ y419 t423 t426 t429 t432 _ ?side1 ?side2 A24.out).mono ?_); (case side1 => repeat (first | exact (by repeat (first | (with_reducible exact HR422.out) | (with_reducible refine Kd.C_alloc ?_ _) | (with_reducible refine Kd.C_drewN ?_ _) | (with_reducible refine Kd.C_drew ?_) | exact HR422.out)) | (with_reducible refine Kd.C_alloc ?_ _) | (with_reducible refine Kd.C_drewN ?_ _) | (with_reducible refine Kd.C_drew ?_))); (case side2 => exact HC422.out); rintro e w43 ⟨v424, v427, v430, rfl, ho0, ho1, ho2, hb⟩; refine ⟨_, rfl, ?_⟩; have n0_ := Aside0.mk (Kd.R_elder' (mvR_ HO417.out) (Kd.R_base ho2) hb); have n1_ := Aside0.mk (Kd.R_lower ho0 (below_size (bq1_ HB.out GE411.out))); have n2_ := Aside0.mk (Kd.R_lower ho1 (below_size (bq1_ HB.out GE411.out))); have n3_ := Aside0.mk (Kd.R_lower (Kd.R_new' ho2 (Kd.R_lt (mvR_ HO417.out))) (below_size (bq1_ HB.out GE411.out))); have n4_ := Aside0.mk (blk_below (g := gb411) (o := .cells #[.slice A0_0 l0_0.length c0_0, .slice A0_1 l0_1.length c0_1] 26 (0, 0)) (mvK_ BK411.out) hb); have n5_ := Aside0.mk (Kd.C_below (by repeat (first | (with_reducible exact HR422.out) | (with_reducible refine Kd.C_alloc ?_ _) | (with_reducible refine Kd.C_drewN ?_ _) | (with_reducible refine Kd.C_drew ?_) | exact HR422.out)) hb); have n6_ := Aside0.mk (below_step (bq1_ HB.out GE411.out) hb); clear HO417; clear BK411; clear HR422; clear HB; have HO417 := n0_; have HO425 := n1_; have HO428 := n2_; have HO431 := n3_; have BK411 := n4_; have HR422 := n5_; have HB := n6_; clear n0_ n1_ n2_ n3_ n4_ n5_ n6_; (try clear hb); (try clear ho0); (try clear ho1); (try clear ho2)) | ((with_reducible refine gate_dst (N := 8) rfl ?_); (try (refine gate_guard (by rfl) ?_; dsimp only)); refine box_event ?hg (N := 8) ?hd (cs := #[.slice none 0 0, .slice none 0 0]) (t := 26) ?hr ?_; (case hd => rfl); (case hg => rfl); (case hr => first | (go_simp; done) | (go_simp; rfl)); intro gb433 hg w44 hbox hb; have n0_ := Aside0.mk (Kd.R_below (mvR_ HO417.out) hb); have n1_ := Aside0.mk (Kd.R_below (mvR_ HO425.out) hb); have n2_ := Aside0.mk (Kd.R_below (mvR_ HO428.out) hb); have n3_ := Aside0.mk (Kd.R_below (mvR_ HO431.out) hb); have n4_ := Aside0.mk (blk_below (g := gb411) (o := .cells #[.slice A0_0 l0_0.length c0_0, .slice A0_1 l0_1.length c0_1] 26 (0, 0)) (mvK_ BK411.out) hb); have n5_ := Aside0.mk (Kd.C_below (by repeat (first | (with_reducible exact HR422.out) | (with_reducible refine Kd.C_alloc ?_ _) | (with_reducible refine Kd.C_drewN ?_ _) | (with_reducible refine Kd.C_drew ?_) | exact HR422.out)) hb); have n6_ := Aside0.mk (below_step (bq1_ HB.out GE411.out) hb); have n7_ := Aside0.mk (hbox); have n8_ := Aside0.mk ((by rw [hg]; exact (below_size (bq1_ HB.out GE411.out)) : w.heap.size ≤ gb433)); have n9_ := Aside0.mk ((by rw [hg]; exact (below_size (bq1_ HB.out GE411.out)) : w.heap.size ≤ gb433)); have n10_ := Aside0.mk ((by rw [hg]; exact Nat.ne_of_lt (blk_lt (g := gb411) (o := .cells #[.slice A0_0 l0_0.length c0_0, .slice A0_1 l0_1.length c0_1] 26 (0, 0)) (mvK_ BK411.out)) : gb411 ≠ gb433)); have n11_ := Aside0.mk ((by rw [hg]; exact Nat.ne_of_gt (blk_lt (g := gb411) (o := .cells #[.slice A0_0 l0_0.length c0_0, .slice A0_1 l0_1.length c0_1] 26 (0, 0)) (mvK_ BK411.out)) : gb433 ≠ gb411)); clear HO417; clear HO425; clear HO428; clear HO431; clear BK411; clear HR422; clear HB; have HO417 := n0_; have HO425 := n1_; have HO428 := n2_; have HO431 := n3_; have BK411 := n4_; have HR422 := n5_; have HB := n6_; have BK433 := n7_; have GW433 := n8_; have GE433 := n9_; have NB411_433 := n10_; have NB433_411 := n11_; clear n0_ n1_ n2_ n3_ n4_ n5_ n6_ n7_ n8_ n9_ n10_ n11_; clear hb hbox hg; obtain ⟨Ao45, co45, eo45⟩ := Kd.R_slice HO425.out; subst eo45; have hnb46 := NB433_411.out; have hnc46 := NB411_433.out; have hcz47_0 : w44.cell? ⟨gb433, 0, none⟩ = some (.slice none 0 0) := (blk_cell BK433.out 0).trans rfl; have hcz47_1 : w44.cell? ⟨gb433, 1, none⟩ = some (.slice none 0 0) := (blk_cell BK433.out 1).trans rfl; have hfz47_0 := blk_frozen BK433.out 0; have hfz47_1 := blk_frozen BK433.out 1; obtain ⟨Ao48, co48, eo48⟩ := Kd.R_slice HO428.out; subst eo48))
                      go_ret
                      exact ⟨by first | rfl | (simp [errW_none, errW_some] <;> rfl) | (simp only [← hji21]; first | rfl | (simp [errW_none, errW_some] <;> rfl)) | (simp [*, errW_none, errW_some] <;> rfl), by repeat (first | (with_reducible first | exact HB.out | apply below_alloc | apply pw_below_drewN | apply below_drew1 | refine below_set ?_ GE411.out | refine below_set ?_ GE433.out) | exact HB.out)⟩
                  · replace c25 := Bool.eq_false_iff.mpr c25
                    subst c25
                    have H1 : (some false) = some r := by rw [if_neg (show ¬ (false = true) by decide)] at H; exact H
                    clear H
                    have H := H1
                    clear H1
                    obtain rfl := Option.some.inj H
                    have hcz49_0 : wc.cell? ⟨gb411, 0, none⟩ = some (.slice A0_0 l0_0.length c0_0) := (blk_cell BK411.out 0).trans rfl
                    have hcz49_1 : wc.cell? ⟨gb411, 1, none⟩ = some (.slice A0_1 l0_1.length c0_1) := (blk_cell BK411.out 1).trans rfl
                    have hfz49_0 := blk_frozen BK411.out 0
                    have hfz49_1 := blk_frozen BK411.out 1
                    go_wp2_with (first | ((with_reducible refine gate_callee (f := 11) rfl ?_); refine goesL_ (some 23) rfl rfl Try.func11 (by kernel_rfl) rfl #[.slice none 0 0, .agg #[.slice A0_0 l0_0.length c0_0, .slice A0_1 l0_1.length c0_1]] rfl (by (try simp only [List.map_toArray, List.map_cons, List.map_nil]); first | done | rfl | (simp only [List.length_drop, List.length_take]; rfl)) ?_; (refine (image_Put.calls kj3 _ _ ([] : List Int) _ _ l0_0 _ _ l0_1 t415 t418 _ ?side1 ?side2 ?side3 ?side4 ?side5 ?side6 A17.out).mono ?_); (case side1 => exact Kd.C_nil _ _); (case side2 => exact Nat.le_refl _); (case side3 => exact mvC_ ((Kd.C_below HR0_0.out HB.out))); (case side4 => exact HC0_0.out); (case side5 => exact mvC_ ((Kd.C_below HR0_1.out HB.out))); (case side6 => exact HC0_1.out); rintro e w50 ⟨v416, rfl, ho0, hb⟩; refine ⟨_, rfl, ?_⟩; have n0_ := Aside0.mk (Kd.R_lower ho0 (below_size (bq1_ HB.out GE411.out))); have n1_ := Aside0.mk (blk_below (g := gb411) (o := .cells #[.slice A0_0 l0_0.length c0_0, .slice A0_1 l0_1.length c0_1] 26 (0, 0)) (mvK_ BK411.out) hb); have n2_ := Aside0.mk (below_step (bq1_ HB.out GE411.out) hb); clear BK411; clear HB; have HO417 := n0_; have BK411 := n1_; have HB := n2_; clear n0_ n1_ n2_; (try clear hb); (try clear ho0); obtain ⟨Ao51, co51, eo51⟩ := Kd.R_slice HO417.out; subst eo51; have hcz52_0 : w50.cell? ⟨gb411, 0, none⟩ = some (.slice A0_0 l0_0.length c0_0) := (blk_cell BK411.out 0).trans rfl; have hcz52_1 : w50.cell? ⟨gb411, 1, none⟩ = some (.slice A0_1 l0_1.length c0_1) := (blk_cell BK411.out 1).trans rfl; have hfz52_0 := blk_frozen BK411.out 0; have hfz52_1 := blk_frozen BK411.out 1; have q53 : ((ji21) : Int) ≤ ((t415.length : Int) : Int) := od_; obtain ⟨i053, hi053, _, hsz53, _⟩ := info_parts info5; have hroom53 : t415.length ≤ co51 := (Kd.R_reads' HO417.out).2.1; have hC53 : Kd.C (Kd.int .u8) _ Ao51 t415.length t415 := (Kd.R_reads' HO417.out).2.2; have hcut53 := cut_to (P := Try.prog) 22 5 .i64 Try.underlying22 hi053 Ao51 t415.length co51 (ji21) od_ q53 hroom53; have hr53 := Kd.C_take (m := ((ji21) : Int).toNat) hC53 (by omega); have hy53 : y419.length = ((ji21) : Int).toNat := (by rw [Ny419.out, List.length_take]; omega); rw [← Ny419.out] at hr53; rw [← hy53] at hcut53; have HR422 := Aside0.mk hr53; have HC422 := Aside0.mk (show y419.length ≤ co51 from by omega); clear hr53 hC53 hroom53 hi053 hsz53; have KY53 := Aside0.mk hy53; clear hy53; have KL53 := Aside0.mk (show ((ji21) : Int).toNat ≤ t415.length from by omega); replace q53 := eq_true q53) | ((with_reducible refine gate_callee (f := 15) rfl ?_); refine goesL_ (some 50) rfl rfl Try.func15 (by kernel_rfl) rfl #[.slice Ao51 y419.length co51] rfl (by (try simp only [List.map_toArray, List.map_cons, List.map_nil]); first | done | rfl | (simp only [List.length_drop, List.length_take]; rfl)) ?_; (with_reducible refine (image_Take.calls kj3 _ _ y419 t423 t426 t429 t432 _ ?side1 ?side2 A24.out).mono ?_); (case side1 => repeat (first | exact (by repeat (first | (with_reducible exact HR422.out) | (with_reducible refine Kd.C_alloc ?_ _) | (with_reducible refine Kd.C_drewN ?_ _) | (with_reducible refine Kd.C_drew ?_) | exact HR422.out)) | (with_reducible refine Kd.C_alloc ?_ _) | (with_reducible refine Kd.C_drewN ?_ _) | (with_reducible refine Kd.C_drew ?_))); (case side2 => exact HC422.out); rintro e w54 ⟨v424, v427, v430, rfl, ho0, ho1, ho2, hb⟩; refine ⟨_, rfl, ?_⟩; have n0_ := Aside0.mk (Kd.R_elder' (mvR_ HO417.out) (Kd.R_base ho2) hb); have n1_ := Aside0.mk (Kd.R_lower ho0 (below_size (bq1_ HB.out GE411.out))); have n2_ := Aside0.mk (Kd.R_lower ho1 (below_size (bq1_ HB.out GE411.out))); have n3_ := Aside0.mk (Kd.R_lower (Kd.R_new' ho2 (Kd.R_lt (mvR_ HO417.out))) (below_size (bq1_ HB.out GE411.out))); have n4_ := Aside0.mk (blk_below (g := gb411) (o := .cells #[.slice A0_0 l0_0.length c0_0, .slice A0_1 l0_1.length c0_1] 26 (0, 0)) (mvK_ BK411.out) hb); have n5_ := Aside0.mk (Kd.C_below (by repeat (first | (with_reducible exact HR422.out) | (with_reducible refine Kd.C_alloc ?_ _) | (with_reducible refine Kd.C_drewN ?_ _) | (with_reducible refine Kd.C_drew ?_) | exact HR422.out)) hb); have n6_ := Aside0.mk (below_step (bq1_ HB.out GE411.out) hb); clear HO417; clear BK411; clear HR422; clear HB; have HO417 := n0_; have HO425 := n1_; have HO428 := n2_; have HO431 := n3_; have BK411 := n4_; have HR422 := n5_; have HB := n6_; clear n0_ n1_ n2_ n3_ n4_ n5_ n6_; (try clear hb); (try clear ho0); (try clear ho1); (try clear ho2)) | ((with_reducible refine gate_dst (N := 8) rfl ?_); (try (refine gate_guard (by rfl) ?_; dsimp only)); refine box_event ?hg (N := 8) ?hd (cs := #[.slice none 0 0, .slice none 0 0]) (t := 26) ?hr ?_; (case hd => rfl); (case hg => rfl); (case hr => first | (go_simp; done) | (go_simp; rfl)); intro gb433 hg w55 hbox hb; have n0_ := Aside0.mk (Kd.R_below (mvR_ HO417.out) hb); have n1_ := Aside0.mk (Kd.R_below (mvR_ HO425.out) hb); have n2_ := Aside0.mk (Kd.R_below (mvR_ HO428.out) hb); have n3_ := Aside0.mk (Kd.R_below (mvR_ HO431.out) hb); have n4_ := Aside0.mk (blk_below (g := gb411) (o := .cells #[.slice A0_0 l0_0.length c0_0, .slice A0_1 l0_1.length c0_1] 26 (0, 0)) (mvK_ BK411.out) hb); have n5_ := Aside0.mk (Kd.C_below (by repeat (first | (with_reducible exact HR422.out) | (with_reducible refine Kd.C_alloc ?_ _) | (with_reducible refine Kd.C_drewN ?_ _) | (with_reducible refine Kd.C_drew ?_) | exact HR422.out)) hb); have n6_ := Aside0.mk (below_step (bq1_ HB.out GE411.out) hb); have n7_ := Aside0.mk (hbox); have n8_ := Aside0.mk ((by rw [hg]; exact (below_size (bq1_ HB.out GE411.out)) : w.heap.size ≤ gb433)); have n9_ := Aside0.mk ((by rw [hg]; exact (below_size (bq1_ HB.out GE411.out)) : w.heap.size ≤ gb433)); have n10_ := Aside0.mk ((by rw [hg]; exact Nat.ne_of_lt (blk_lt (g := gb411) (o := .cells #[.slice A0_0 l0_0.length c0_0, .slice A0_1 l0_1.length c0_1] 26 (0, 0)) (mvK_ BK411.out)) : gb411 ≠ gb433)); have n11_ := Aside0.mk ((by rw [hg]; exact Nat.ne_of_gt (blk_lt (g := gb411) (o := .cells #[.slice A0_0 l0_0.length c0_0, .slice A0_1 l0_1.length c0_1] 26 (0, 0)) (mvK_ BK411.out)) : gb433 ≠ gb411)); clear HO417; clear HO425; clear HO428; clear HO431; clear BK411; clear HR422; clear HB; have HO417 := n0_; have HO425 := n1_; have HO428 := n2_; have HO431 := n3_; have BK411 := n4_; have HR422 := n5_; have HB := n6_; have BK433 := n7_; have GW433 := n8_; have GE433 := n9_; have NB411_433 := n10_; have NB433_411 := n11_; clear n0_ n1_ n2_ n3_ n4_ n5_ n6_ n7_ n8_ n9_ n10_ n11_; clear hb hbox hg; obtain ⟨Ao56, co56, eo56⟩ := Kd.R_slice HO425.out; subst eo56; have hnb57 := NB433_411.out; have hnc57 := NB411_433.out; have hcz58_0 : w55.cell? ⟨gb433, 0, none⟩ = some (.slice none 0 0) := (blk_cell BK433.out 0).trans rfl; have hcz58_1 : w55.cell? ⟨gb433, 1, none⟩ = some (.slice none 0 0) := (blk_cell BK433.out 1).trans rfl; have hfz58_0 := blk_frozen BK433.out 0; have hfz58_1 := blk_frozen BK433.out 1; obtain ⟨Ao59, co59, eo59⟩ := Kd.R_slice HO428.out; subst eo59))
                    go_ret
                    exact ⟨by first | rfl | (simp [errW_none, errW_some] <;> rfl) | (simp only [← hji21]; first | rfl | (simp [errW_none, errW_some] <;> rfl)) | (simp [*, errW_none, errW_some] <;> rfl), by repeat (first | (with_reducible first | exact HB.out | apply below_alloc | apply pw_below_drewN | apply below_drew1 | refine below_set ?_ GE411.out | refine below_set ?_ GE433.out) | exact HB.out)⟩
                · rw [if_neg c23] at H
                  exact absurd H (by simp)
              · rw [if_neg c22] at H
                exact absurd H (by simp)
          · rw [if_neg c19] at H
            have c19b0 : ((t415.length : Int) == (wrap64 ((wrap64 (1 + (l0_0.length : Int))) + (wrap64 (8 * (l0_1.length : Int)))))) = false := beq_eq_false_iff_ne.mpr c19
            have c19b1 : ((t415.length : Int) != (wrap64 ((wrap64 (1 + (l0_0.length : Int))) + (wrap64 (8 * (l0_1.length : Int)))))) = true := bne_iff_ne.mpr c19
            obtain rfl := Option.some.inj H
            have hcz60_0 : wc.cell? ⟨gb411, 0, none⟩ = some (.slice A0_0 l0_0.length c0_0) := (blk_cell BK411.out 0).trans rfl
            have hcz60_1 : wc.cell? ⟨gb411, 1, none⟩ = some (.slice A0_1 l0_1.length c0_1) := (blk_cell BK411.out 1).trans rfl
            have hfz60_0 := blk_frozen BK411.out 0
            have hfz60_1 := blk_frozen BK411.out 1
            go_wp2_with (first | ((with_reducible refine gate_callee (f := 11) rfl ?_); refine goesL_ (some 23) rfl rfl Try.func11 (by kernel_rfl) rfl #[.slice none 0 0, .agg #[.slice A0_0 l0_0.length c0_0, .slice A0_1 l0_1.length c0_1]] rfl (by (try simp only [List.map_toArray, List.map_cons, List.map_nil]); first | done | rfl | (simp only [List.length_drop, List.length_take]; rfl)) ?_; (refine (image_Put.calls kj3 _ _ ([] : List Int) _ _ l0_0 _ _ l0_1 t415 t418 _ ?side1 ?side2 ?side3 ?side4 ?side5 ?side6 A17.out).mono ?_); (case side1 => exact Kd.C_nil _ _); (case side2 => exact Nat.le_refl _); (case side3 => exact mvC_ ((Kd.C_below HR0_0.out HB.out))); (case side4 => exact HC0_0.out); (case side5 => exact mvC_ ((Kd.C_below HR0_1.out HB.out))); (case side6 => exact HC0_1.out); rintro e w61 ⟨v416, rfl, ho0, hb⟩; refine ⟨_, rfl, ?_⟩; have n0_ := Aside0.mk (Kd.R_lower ho0 (below_size (bq1_ HB.out GE411.out))); have n1_ := Aside0.mk (blk_below (g := gb411) (o := .cells #[.slice A0_0 l0_0.length c0_0, .slice A0_1 l0_1.length c0_1] 26 (0, 0)) (mvK_ BK411.out) hb); have n2_ := Aside0.mk (below_step (bq1_ HB.out GE411.out) hb); clear BK411; clear HB; have HO417 := n0_; have BK411 := n1_; have HB := n2_; clear n0_ n1_ n2_; (try clear hb); (try clear ho0); obtain ⟨Ao62, co62, eo62⟩ := Kd.R_slice HO417.out; subst eo62; have hcz63_0 : w61.cell? ⟨gb411, 0, none⟩ = some (.slice A0_0 l0_0.length c0_0) := (blk_cell BK411.out 0).trans rfl; have hcz63_1 : w61.cell? ⟨gb411, 1, none⟩ = some (.slice A0_1 l0_1.length c0_1) := (blk_cell BK411.out 1).trans rfl; have hfz63_0 := blk_frozen BK411.out 0; have hfz63_1 := blk_frozen BK411.out 1))
            go_ret
            exact ⟨by first | rfl | (simp [errW_none, errW_some] <;> rfl) | (simp [*, errW_none, errW_some] <;> rfl), by repeat (first | (with_reducible first | exact HB.out | apply below_alloc | apply pw_below_drewN | apply below_drew1 | refine below_set ?_ GE411.out) | exact HB.out)⟩
        · rw [if_neg c18] at H
          have c18b0 : (t418 == 0) = false := beq_eq_false_iff_ne.mpr c18
          have c18b1 : (t418 != 0) = true := bne_iff_ne.mpr c18
          obtain rfl := Option.some.inj H
          have hcz64_0 : wc.cell? ⟨gb411, 0, none⟩ = some (.slice A0_0 l0_0.length c0_0) := (blk_cell BK411.out 0).trans rfl
          have hcz64_1 : wc.cell? ⟨gb411, 1, none⟩ = some (.slice A0_1 l0_1.length c0_1) := (blk_cell BK411.out 1).trans rfl
          have hfz64_0 := blk_frozen BK411.out 0
          have hfz64_1 := blk_frozen BK411.out 1
          go_wp2_with (first | ((with_reducible refine gate_callee (f := 11) rfl ?_); refine goesL_ (some 23) rfl rfl Try.func11 (by kernel_rfl) rfl #[.slice none 0 0, .agg #[.slice A0_0 l0_0.length c0_0, .slice A0_1 l0_1.length c0_1]] rfl (by (try simp only [List.map_toArray, List.map_cons, List.map_nil]); first | done | rfl | (simp only [List.length_drop, List.length_take]; rfl)) ?_; (refine (image_Put.calls kj3 _ _ ([] : List Int) _ _ l0_0 _ _ l0_1 t415 t418 _ ?side1 ?side2 ?side3 ?side4 ?side5 ?side6 A17.out).mono ?_); (case side1 => exact Kd.C_nil _ _); (case side2 => exact Nat.le_refl _); (case side3 => exact mvC_ ((Kd.C_below HR0_0.out HB.out))); (case side4 => exact HC0_0.out); (case side5 => exact mvC_ ((Kd.C_below HR0_1.out HB.out))); (case side6 => exact HC0_1.out); rintro e w65 ⟨v416, rfl, ho0, hb⟩; refine ⟨_, rfl, ?_⟩; have n0_ := Aside0.mk (Kd.R_lower ho0 (below_size (bq1_ HB.out GE411.out))); have n1_ := Aside0.mk (blk_below (g := gb411) (o := .cells #[.slice A0_0 l0_0.length c0_0, .slice A0_1 l0_1.length c0_1] 26 (0, 0)) (mvK_ BK411.out) hb); have n2_ := Aside0.mk (below_step (bq1_ HB.out GE411.out) hb); clear BK411; clear HB; have HO417 := n0_; have BK411 := n1_; have HB := n2_; clear n0_ n1_ n2_; (try clear hb); (try clear ho0)))
          go_ret
          exact ⟨by first | rfl | (simp [errW_none, errW_some] <;> rfl) | (simp [*, errW_none, errW_some] <;> rfl), by repeat (first | (with_reducible first | exact HB.out | apply below_alloc | apply pw_below_drewN | apply below_drew1 | refine below_set ?_ GE411.out) | exact HB.out)⟩

/-- THE ONE PURE STATEMENT of fullerlaw09_ImageSizes: yours. -/
def fullerlaw09_ImageSizes.Pure : Prop := ∀ (l0_0 : List Int) (l0_1 : List Int) (a1 : Int), (l0_0.length * 8 ≤ 140737488351232 ∧ ∀ x_ ∈ l0_0, (Lit.int .i64 x_).wf = true) → (l0_1.length * 8 ≤ 140737488351232 ∧ ∀ x_ ∈ l0_1, (Lit.int .i64 x_).wf = true) → ((Lit.int .u16 a1).wf = true) → ∃ k, fullerlaw09_ImageSizes.f k l0_0 l0_1 a1 = some true
theorem fullerlaw09_ImageSizes.walk (P : fullerlaw09_ImageSizes.Pure) (A0_0 : Option Addr) (c0_0 : Nat) (l0_0 : List Int) (A0_1 : Option Addr) (c0_1 : Nat) (l0_1 : List Int) (a1 : Int) (w : World) (hr0_0 : Kd.C (Kd.int .i64) w A0_0 l0_0.length l0_0) (hc0_0 : l0_0.length ≤ c0_0) (hr0_1 : Kd.C (Kd.int .i64) w A0_1 l0_1.length l0_1) (hc0_1 : l0_1.length ≤ c0_1) (hg0_0 : l0_0.length * 8 ≤ 140737488351232 ∧ ∀ x_ ∈ l0_0, (Lit.int .i64 x_).wf = true) (hg0_1 : l0_1.length * 8 ≤ 140737488351232 ∧ ∀ x_ ∈ l0_1, (Lit.int .i64 x_).wf = true) (hg1 : (Lit.int .u16 a1).wf = true) :
    Calls Try.prog 5 #[.agg #[.slice A0_0 l0_0.length c0_0, .slice A0_1 l0_1.length c0_1], .int .u16 a1] w fun e w' => e = .returned (.bool true) ∧ Below w.heap.size w w' := by
  obtain ⟨k, h⟩ := P l0_0 l0_1 a1 hg0_0 hg0_1 hg1
  refine (fullerlaw09_ImageSizes.calls k _ _ l0_0 _ _ l0_1 a1 true w hr0_0 hc0_0 hr0_1 hc0_1 h).mono ?_
  rintro e w' ⟨rfl, hd⟩
  exact ⟨rfl, hd⟩

end Go.Proofs.Ytfoffgbhfokccaa.A
