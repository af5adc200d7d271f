/- Lean functions that answer as the Go functions do, and the proofs that they do; no conditions. Written by this session's own driver: a scratch copy of the kit's print with the session's additions (wip/xprint). -/
import Derived.Test.YtchmfdaebohplaaAx0
import Derived.Test.YtchmfdaebohplaaAx6
namespace Go.Proofs.Ytchmfdaebohplaa.A
open Go.RowKit Go.Proofs.YtchmfdaebohplaaW.PrintWords Go.Proofs.YtchmfdaebohplaaW.PrintLast Go.Proofs.YtchmfdaebohplaaW.PrintMore
attribute [local go_sem] max2_int min2_int max_two min_two max_three min_three max_four min_four   -- for this text's walks alone
set_option linter.unusedVariables false
set_option linter.unusedSimpArgs false

/-! ### fullerref02_Check: function 45 -/
def fullerref02_Check.l0 : Nat → List Int → Int → Option (Bool)
  | 0, _, _ => none
  | k + 1, x0, x3 => if x3 < (x0.length : Int) then (if 0 ≤ x3 then (if (rd x0 x3) < 1 then (some false) else (if (rd x0 x3) > 16 then (some false) else (fullerref02_Check.l0 k x0 (wrap64 (x3 + 1))))) else (none)) else ((fullerref02_product.f k x0).bind fun t182 => (some (decide (t182 ≤ 64))))
def fullerref02_Check.f (k : Nat) (l0 : List Int) : Option (Bool) := if (l0.length : Int) > 3 then (some false) else (fullerref02_Check.l0 k l0 0)
theorem fullerref02_Check.mono_l : ∀ k, (∀ y0 y1, LeO (fullerref02_Check.l0 k y0 y1) (fullerref02_Check.l0 (k + 1) y0 y1))
  | 0 => fun _ _ r h => by simp [fullerref02_Check.l0] at h
  | k + 1 => by
    have ih0 := fullerref02_Check.mono_l k
    · intro y0 y1
      unfold fullerref02_Check.l0
      repeat' first
      | (with_reducible exact ih0 _ _)
      | (with_reducible exact fullerref02_product.mono _ _)
      | (with_reducible exact LeO.refl _)
      | (with_reducible exact LeO.none _)
      | (with_reducible refine LeO.ite ?_ ?_)
      | (with_reducible refine LeO.bind ?_ (fun _ => ?_))
      | exact ih0 _ _
      | exact fullerref02_product.mono _ _
      | exact LeO.none _
      | refine LeO.ite ?_ ?_
      | refine LeO.bind ?_ (fun _ => ?_)
theorem fullerref02_Check.mono : ∀ a0 k, LeO (fullerref02_Check.f k a0) (fullerref02_Check.f (k + 1) a0) := by
  intro a0 k
  have ih0 := fullerref02_Check.mono_l k
  unfold fullerref02_Check.f
  repeat' first
      | (with_reducible exact ih0 _ _)
      | (with_reducible exact fullerref02_product.mono _ _)
      | (with_reducible exact LeO.refl _)
      | (with_reducible exact LeO.none _)
      | (with_reducible refine LeO.ite ?_ ?_)
      | (with_reducible refine LeO.bind ?_ (fun _ => ?_))
      | exact ih0 _ _
      | exact fullerref02_product.mono _ _
      | exact LeO.none _
      | refine LeO.ite ?_ ?_
      | refine LeO.bind ?_ (fun _ => ?_)
set_option maxHeartbeats 8000000 in
set_option maxRecDepth 100000 in
theorem fullerref02_Check.calls (k : Nat) (A0 : Option Addr) (c0 : Nat) (l0 : List Int) (r : Bool) (w : World) (hr0 : Kd.C (Kd.int .i64) w A0 l0.length l0) (hc0 : l0.length ≤ c0) (h : fullerref02_Check.f k l0 = some r) :
    Calls Try.prog 45 #[.slice A0 l0.length c0] w fun e w' => e = .returned (.bool r) ∧ Drawn0 w w' := by
  have HR0 := Aside0.mk hr0
  have HC0 := Aside0.mk hc0
  clear hr0 hc0
  have H : (if (l0.length : Int) > 3 then (some false) else (fullerref02_Check.l0 k l0 0)) = some r := h
  clear h
  by_cases c2 : (l0.length : Int) > 3
  · rw [if_pos c2] at H
    have c2b0 : decide (3 < (l0.length : Int)) = true := decide_eq_true c2
    have c2b1 : decide (3 < l0.length) = true := decide_eq_true (by omega)
    clear c2
    obtain rfl := Option.some.inj H
    go_enter Try.func45, Try.ntmps45
    go_wp2
    go_ret
    exact ⟨by first | rfl | (simp; done) | (simp [*]; done), by repeat (first | exact Drawn0.refl _ | apply Drawn0.step)⟩
  · rw [if_neg c2] at H
    have c2b0 : decide (3 < (l0.length : Int)) = false := decide_eq_false c2
    have c2b1 : decide (3 < l0.length) = false := decide_eq_false (by omega)
    clear c2
    have H' := Aside0.mk H
    clear H
    go_enter Try.func45, Try.ntmps45
    go_wp2
    go_loopg [3] k (fun kq v3 w' => ∃ (x3_1 : Int), v3 = .int .i64 x3_1 ∧ Aside0 (fullerref02_Check.l0 kq l0 x3_1 = some r) ∧ Aside0 (kq ≤ k) ∧ Drawn0 w w')
    case atStart => exact ⟨(0), (by first | rfl | (simp; done) | (simp [*]; done)), H', ⟨Nat.le_refl _⟩, by repeat (first | exact Drawn0.refl _ | apply Drawn0.step)⟩
    case round =>
      clear H'
      try clear c2
      try clear c2b0
      try clear c2b1
      try clear p2
      obtain ⟨x3_1, rfl, HA, HK1, ⟨m1, rfl⟩⟩ := hrel
      cases gk with
      | zero => exact absurd HA.out (by simp [fullerref02_Check.l0])
      | succ k1 =>
        have H := HA.out
        clear HA
        simp only [fullerref02_Check.l0] at H
        by_cases c3 : x3_1 < (l0.length : Int)
        · rw [if_pos c3] at H
          have c3b0 : decide (x3_1 < (l0.length : Int)) = true := decide_eq_true c3
          clear c3
          by_cases c4 : 0 ≤ x3_1
          · rw [if_pos c4] at H
            have c4b0 : decide (0 ≤ x3_1) = true := decide_eq_true c4
            clear c4
            by_cases c5 : (rd l0 x3_1) < 1
            · rw [if_pos c5] at H
              have c5b0 : decide ((rd l0 x3_1) < 1) = true := decide_eq_true c5
              clear c5
              obtain rfl := Option.some.inj H
              have p180 : 0 ≤ (x3_1 : Int) := of_decide_eq_true (by first | (with_reducible assumption) | assumption)
              have q180 : x3_1 < (l0.length : Int) := of_decide_eq_true (by first | (with_reducible assumption) | assumption)
              obtain ⟨ad180, e180, hx180_0⟩ := Kd.at_int HR0.out x3_1 p180 q180
              cases e180
              replace p180 := eq_true p180
              replace q180 := eq_true q180
              go_wp2
              go_ret
              exact ⟨by first | rfl | (simp; done) | (simp [*]; done), by repeat (first | exact Drawn0.refl _ | apply Drawn0.step)⟩
            · rw [if_neg c5] at H
              have c5b0 : decide ((rd l0 x3_1) < 1) = false := decide_eq_false c5
              clear c5
              by_cases c6 : (rd l0 x3_1) > 16
              · rw [if_pos c6] at H
                have c6b0 : decide (16 < (rd l0 x3_1)) = true := decide_eq_true c6
                clear c6
                obtain rfl := Option.some.inj H
                have p180 : 0 ≤ (x3_1 : Int) := of_decide_eq_true (by first | (with_reducible assumption) | assumption)
                have q180 : x3_1 < (l0.length : Int) := of_decide_eq_true (by first | (with_reducible assumption) | assumption)
                obtain ⟨ad180, e180, hx180_0⟩ := Kd.at_int HR0.out x3_1 p180 q180
                cases e180
                replace p180 := eq_true p180
                replace q180 := eq_true q180
                have p181 : 0 ≤ (x3_1 : Int) := of_decide_eq_true (by first | (with_reducible assumption) | assumption)
                have q181 : x3_1 < (l0.length : Int) := of_decide_eq_true (by first | (with_reducible assumption) | assumption)
                obtain ⟨ad181, e181, hx181_0⟩ := Kd.at_int HR0.out x3_1 p181 q181
                obtain rfl : ad180 = ad181 := (by injection e181)
                replace p181 := eq_true p181
                replace q181 := eq_true q181
                go_wp2
                go_ret
                exact ⟨by first | rfl | (simp; done) | (simp [*]; done), by repeat (first | exact Drawn0.refl _ | apply Drawn0.step)⟩
              · rw [if_neg c6] at H
                have c6b0 : decide (16 < (rd l0 x3_1)) = false := decide_eq_false c6
                clear c6
                have H' := Aside0.mk H
                clear H
                have p180 : 0 ≤ (x3_1 : Int) := of_decide_eq_true (by first | (with_reducible assumption) | assumption)
                have q180 : x3_1 < (l0.length : Int) := of_decide_eq_true (by first | (with_reducible assumption) | assumption)
                obtain ⟨ad180, e180, hx180_0⟩ := Kd.at_int HR0.out x3_1 p180 q180
                cases e180
                replace p180 := eq_true p180
                replace q180 := eq_true q180
                have p181 : 0 ≤ (x3_1 : Int) := of_decide_eq_true (by first | (with_reducible assumption) | assumption)
                have q181 : x3_1 < (l0.length : Int) := of_decide_eq_true (by first | (with_reducible assumption) | assumption)
                obtain ⟨ad181, e181, hx181_0⟩ := Kd.at_int HR0.out x3_1 p181 q181
                obtain rfl : ad180 = ad181 := (by injection e181)
                replace p181 := eq_true p181
                replace q181 := eq_true q181
                go_wp2
                go_roundg k1
                case measure => have := HK1.out; omega
                case rel => exact ⟨(wrap64 (x3_1 + 1)), (by first | rfl | (simp; done) | (simp [*]; done)), H', ⟨by have := HK1.out; omega⟩, by repeat (first | exact Drawn0.refl _ | apply Drawn0.step)⟩
          · rw [if_neg c4] at H
            exact absurd H (by simp)
        · rw [if_neg c3] at H
          have c3b0 : decide (x3_1 < (l0.length : Int)) = false := decide_eq_false c3
          clear c3
          replace H := Option.bind_eq_some_iff.mp H
          obtain ⟨t182, A70, H⟩ := H
          replace H : (some (decide (t182 ≤ 64))) = some r := H
          have A7 := Aside0.mk A70
          clear A70
          obtain rfl := Option.some.inj H
          go_wp2_with (first | ((with_reducible refine gate_callee (f := 48) rfl ?_); refine goesL_ (some 26) rfl rfl Try.func48 (by kernel_rfl) rfl #[.slice A0 l0.length c0] rfl (by (try simp only [List.map_toArray, List.map_cons, List.map_nil]); first | done | rfl | (simp only [List.length_drop, List.length_take]; rfl)) ?_; (with_reducible refine (fullerref02_product.calls k1 _ _ l0 t182 _ ?side1 ?side2 A7.out).mono ?_); (case side1 => repeat (first | exact HR0.out | (with_reducible refine Kd.C_alloc ?_ _) | (with_reducible refine Kd.C_drewN ?_ _) | (with_reducible refine Kd.C_drew ?_))); (case side2 => exact HC0.out); rintro e w' ⟨rfl, ⟨nd, rfl⟩⟩; refine ⟨_, rfl, ?_⟩))
          go_ret
          exact ⟨by first | rfl | (simp; done) | (simp [*]; done), by repeat (first | exact Drawn0.refl _ | apply Drawn0.step)⟩

/-! ### fullerref10_nums: function 35 -/
def fullerref10_nums.j0 : Nat → Bool → Bool → Int → List Int → List Int → Option (Bool)
  | 0, _, _, _, _, _ => none
  | k + 1, x3, x14, x184000, x184001, x184002 => if x14 = true then (some x3) else (if x184000 = 2 then (if (x184002.length : Int) = 0 then (some false) else (if 0 < (x184002.length : Int) then (if (rd x184002 0) < 0 then (some false) else (if (rd x184002 0) > 7 then (some false) else (if 1 ≤ (x184002.length : Int) then ((fullerref02_Check.f k (x184002.drop 1)).bind fun t188 => (some t188)) else (none)))) else (none))) else (if x184000 = 42 then (some ((x184002.length : Int) == 3)) else (if x184000 = 3 then (some ((x184002.length : Int) == 1)) else (if x184000 = 43 then (some ((x184002.length : Int) == 1)) else (if x184000 ≥ 50 then (some ((x184002.length : Int) == 1)) else (some ((x184002.length : Int) == 0)))))))
def fullerref10_nums.f (k : Nat) (a0_0 : Int) (l0_1 : List Int) (l0_2 : List Int) : Option (Bool) := (fullerref02_Check.f k l0_2).bind fun t184 => (if a0_0 = 1 then (fullerref10_nums.j0 k t184 true a0_0 l0_1 l0_2) else (fullerref10_nums.j0 k t184 (a0_0 == 40) a0_0 l0_1 l0_2))
theorem fullerref10_nums.mono_l : ∀ k, (∀ y0 y1 y2 y3 y4, LeO (fullerref10_nums.j0 k y0 y1 y2 y3 y4) (fullerref10_nums.j0 (k + 1) y0 y1 y2 y3 y4))
  | 0 => fun _ _ _ _ _ r h => by simp [fullerref10_nums.j0] at h
  | k + 1 => by
    have ih0 := fullerref10_nums.mono_l k
    · intro y0 y1 y2 y3 y4
      unfold fullerref10_nums.j0
      repeat' first
      | (with_reducible exact ih0 _ _ _ _ _)
      | (with_reducible exact fullerref02_Check.mono _ _)
      | (with_reducible exact LeO.refl _)
      | (with_reducible exact LeO.none _)
      | (with_reducible refine LeO.ite ?_ ?_)
      | (with_reducible refine LeO.bind ?_ (fun _ => ?_))
      | exact ih0 _ _ _ _ _
      | exact fullerref02_Check.mono _ _
      | exact LeO.none _
      | refine LeO.ite ?_ ?_
      | refine LeO.bind ?_ (fun _ => ?_)
theorem fullerref10_nums.mono : ∀ a0 a1 a2 k, LeO (fullerref10_nums.f k a0 a1 a2) (fullerref10_nums.f (k + 1) a0 a1 a2) := by
  intro a0 a1 a2 k
  have ih0 := fullerref10_nums.mono_l k
  unfold fullerref10_nums.f
  repeat' first
      | (with_reducible exact ih0 _ _ _ _ _)
      | (with_reducible exact fullerref02_Check.mono _ _)
      | (with_reducible exact LeO.refl _)
      | (with_reducible exact LeO.none _)
      | (with_reducible refine LeO.ite ?_ ?_)
      | (with_reducible refine LeO.bind ?_ (fun _ => ?_))
      | exact ih0 _ _ _ _ _
      | exact fullerref02_Check.mono _ _
      | exact LeO.none _
      | refine LeO.ite ?_ ?_
      | refine LeO.bind ?_ (fun _ => ?_)
set_option maxHeartbeats 8000000 in
set_option maxRecDepth 100000 in
theorem fullerref10_nums.calls (k : Nat) (a0_0 : Int) (A0_1 : Option Addr) (c0_1 : Nat) (l0_1 : List Int) (A0_2 : Option Addr) (c0_2 : Nat) (l0_2 : List Int) (r : Bool) (w : World) (hr0_1 : Kd.C (Kd.int .i64) w A0_1 l0_1.length l0_1) (hc0_1 : l0_1.length ≤ c0_1) (hr0_2 : Kd.C (Kd.int .i64) w A0_2 l0_2.length l0_2) (hc0_2 : l0_2.length ≤ c0_2) (h : fullerref10_nums.f k a0_0 l0_1 l0_2 = some r) :
    Calls Try.prog 35 #[.agg #[.int .i64 a0_0, .slice A0_1 l0_1.length c0_1, .slice A0_2 l0_2.length c0_2]] w fun e w' => e = .returned (.bool r) ∧ Below w.heap.size w w' := by
  have hu36 := Try.underlying36
  have HR0_1 := Aside0.mk hr0_1
  have HC0_1 := Aside0.mk hc0_1
  clear hr0_1 hc0_1
  have HR0_2 := Aside0.mk hr0_2
  have HC0_2 := Aside0.mk hc0_2
  clear hr0_2 hc0_2
  have HB := Aside0.mk (Below.refl w.heap.size w)
  have H : ((fullerref02_Check.f k l0_2).bind fun t184 => (if a0_0 = 1 then (fullerref10_nums.j0 k t184 true a0_0 l0_1 l0_2) else (fullerref10_nums.j0 k t184 (a0_0 == 40) a0_0 l0_1 l0_2))) = some r := h
  clear h
  replace H := Option.bind_eq_some_iff.mp H
  obtain ⟨t184, A20, H⟩ := H
  replace H : (if a0_0 = 1 then (fullerref10_nums.j0 k t184 true a0_0 l0_1 l0_2) else (fullerref10_nums.j0 k t184 (a0_0 == 40) a0_0 l0_1 l0_2)) = some r := H
  have A2 := Aside0.mk A20
  clear A20
  have HC3 := Aside0.mk H
  clear H
  go_enter Try.func35, Try.ntmps35
  go_upto_region 2 with (first | ((with_reducible refine gate_dst (N := 1) rfl ?_); refine box_event ?hg (N := 1) ?hd (cs := #[.int .i64 a0_0, .slice A0_1 l0_1.length c0_1, .slice A0_2 l0_2.length c0_2]) (t := 36) ?hr ?_; (case hd => rfl); (case hg => rfl); (case hr => first | (go_simp; done) | (go_simp; rfl)); intro gb183 hg w4 hbox hb; have n0_ := Aside0.mk (below_step (bq0_ HB.out) hb); have n1_ := Aside0.mk (hbox); have n2_ := Aside0.mk ((by rw [hg]; exact (below_size (bq0_ HB.out)) : w.heap.size ≤ gb183)); have n3_ := Aside0.mk ((by rw [hg]; exact (below_size (bq0_ HB.out)) : w.heap.size ≤ gb183)); clear HB; have HB := n0_; have BK183 := n1_; have GW183 := n2_; have GE183 := n3_; clear n0_ n1_ n2_ n3_; clear hb hbox hg; have hcz5_0 : w4.cell? ⟨gb183, 0, none⟩ = some (.int .i64 a0_0) := (blk_cell BK183.out 0).trans rfl; have hcz5_1 : w4.cell? ⟨gb183, 1, none⟩ = some (.slice A0_1 l0_1.length c0_1) := (blk_cell BK183.out 1).trans rfl; have hcz5_2 : w4.cell? ⟨gb183, 2, none⟩ = some (.slice A0_2 l0_2.length c0_2) := (blk_cell BK183.out 2).trans rfl; have hfz5_0 := blk_frozen BK183.out 0; have hfz5_1 := blk_frozen BK183.out 1; have hfz5_2 := blk_frozen BK183.out 2) | ((with_reducible refine gate_callee (f := 45) rfl ?_); refine goesL_ (some 6) rfl rfl Try.func45 (by kernel_rfl) rfl #[.slice A0_2 l0_2.length c0_2] rfl (by (try simp only [List.map_toArray, List.map_cons, List.map_nil]); first | done | rfl | (simp only [List.length_drop, List.length_take]; rfl)) ?_; (with_reducible refine (fullerref02_Check.calls k _ _ l0_2 t184 _ ?side1 ?side2 A2.out).mono ?_); (case side1 => exact mvC_ ((Kd.C_below HR0_2.out HB.out))); (case side2 => exact HC0_2.out); rintro e w' ⟨rfl, ⟨nd, rfl⟩⟩; refine ⟨_, rfl, ?_⟩))
  (try simp only [Act.put, List.setIfInBounds_toArray, List.set_cons_zero, List.set_cons_succ])
  go_cut [14] (fun v14 wc => ∃ (kq : Nat) (x14_2 : Bool), v14 = .bool x14_2 ∧ Aside0 (fullerref10_nums.j0 kq t184 x14_2 a0_0 l0_1 l0_2 = some r) ∧ Aside0 (kq ≤ k) ∧ Aside0 (wc.heap[gb183]? = some (.cells #[.int .i64 a0_0, (.slice A0_1 l0_1.length c0_1), (.slice A0_2 l0_2.length c0_2)] 36 (0, 0))) ∧ Aside0 (Below w.heap.size w wc))
  case first =>
    have H := HC3.out
    clear HC3
    by_cases c6 : a0_0 = 1
    · rw [if_pos c6] at H
      have c6b0 : (a0_0 == 1) = true := beq_iff_eq.mpr c6
      have c6b1 : (a0_0 != 1) = false := bne_eq_false_iff_eq.mpr c6
      clear c6
      (first | rw [c6b0] | (simp only [i64_w, i32_w]; rw [c6b0]) | skip)
      have H' := Aside0.mk H
      clear H
      have hcz7_0 : w4.cell? ⟨gb183, 0, none⟩ = some (.int .i64 a0_0) := (blk_cell BK183.out 0).trans rfl
      have hcz7_1 : w4.cell? ⟨gb183, 1, none⟩ = some (.slice A0_1 l0_1.length c0_1) := (blk_cell BK183.out 1).trans rfl
      have hcz7_2 : w4.cell? ⟨gb183, 2, none⟩ = some (.slice A0_2 l0_2.length c0_2) := (blk_cell BK183.out 2).trans rfl
      have hfz7_0 := blk_frozen BK183.out 0
      have hfz7_1 := blk_frozen BK183.out 1
      have hfz7_2 := blk_frozen BK183.out 2
      go_wp2
      go_meet
      case rel => exact ⟨_, (true), (by first | rfl | (simp; done) | (simp [*]; done)), H', ⟨by first | omega | exact Nat.le_refl _⟩, ⟨by (with_reducible repeat (first | refine blk_drewN ?_ _ | refine blk_drew ?_ | refine blk_alloc ?_ _)); exact BK183.out⟩, ⟨by repeat (first | (with_reducible first | exact HB.out | apply below_alloc | apply pw_below_drewN | apply below_drew1 | refine below_set ?_ GE183.out) | exact HB.out)⟩⟩
    · rw [if_neg c6] at H
      have c6b0 : (a0_0 == 1) = false := beq_eq_false_iff_ne.mpr c6
      have c6b1 : (a0_0 != 1) = true := bne_iff_ne.mpr c6
      (first | rw [c6b0] | (simp only [i64_w, i32_w]; rw [c6b0]) | skip)
      have H' := Aside0.mk H
      clear H
      have hcz8_0 : w4.cell? ⟨gb183, 0, none⟩ = some (.int .i64 a0_0) := (blk_cell BK183.out 0).trans rfl
      have hcz8_1 : w4.cell? ⟨gb183, 1, none⟩ = some (.slice A0_1 l0_1.length c0_1) := (blk_cell BK183.out 1).trans rfl
      have hcz8_2 : w4.cell? ⟨gb183, 2, none⟩ = some (.slice A0_2 l0_2.length c0_2) := (blk_cell BK183.out 2).trans rfl
      have hfz8_0 := blk_frozen BK183.out 0
      have hfz8_1 := blk_frozen BK183.out 1
      have hfz8_2 := blk_frozen BK183.out 2
      go_wp2
      go_meet
      case rel => exact ⟨_, ((a0_0 == 40)), (by first | rfl | (simp; done) | (simp [*]; done)), H', ⟨by first | omega | exact Nat.le_refl _⟩, ⟨by (with_reducible repeat (first | refine blk_drewN ?_ _ | refine blk_drew ?_ | refine blk_alloc ?_ _)); exact BK183.out⟩, ⟨by repeat (first | (with_reducible first | exact HB.out | apply below_alloc | apply pw_below_drewN | apply below_drew1 | refine below_set ?_ GE183.out) | exact HB.out)⟩⟩
  case rest =>
    clear HC3
    try clear p2
    try clear c3
    try clear c4
    try clear c6
    try clear c6b0
    try clear c6b1
    try clear hcz5_0
    try clear hcz5_1
    try clear hcz5_2
    try clear hcz7_0
    try clear hcz7_1
    try clear hcz7_2
    try clear hcz8_0
    try clear hcz8_1
    try clear hcz8_2
    try clear hfz5_0
    try clear hfz5_1
    try clear hfz5_2
    try clear hfz7_0
    try clear hfz7_1
    try clear hfz7_2
    try clear hfz8_0
    try clear hfz8_1
    try clear hfz8_2
    obtain ⟨kq, x14_2, rfl, HA, HJ2, BK183, HB⟩ := hcut
    cases kq with
    | zero => exact absurd HA.out (by simp [fullerref10_nums.j0])
    | succ kj2 =>
      have H := HA.out
      clear HA
      simp only [fullerref10_nums.j0] at H
      by_cases c9 : x14_2 = true
      · subst c9
        have H1 : (some t184) = some r := by rw [if_pos rfl] at H; exact H
        clear H
        have H := H1
        clear H1
        obtain rfl := Option.some.inj H
        go_wp2
        go_ret
        exact ⟨by first | rfl | (simp [errW_none, errW_some] <;> rfl) | (simp [*, errW_none, errW_some] <;> rfl), by repeat (first | (with_reducible first | exact HB.out | apply below_alloc | apply pw_below_drewN | apply below_drew1 | refine below_set ?_ GE183.out) | exact HB.out)⟩
      · replace c9 := Bool.eq_false_iff.mpr c9
        subst c9
        have H1 : (if a0_0 = 2 then (if (l0_2.length : Int) = 0 then (some false) else (if 0 < (l0_2.length : Int) then (if (rd l0_2 0) < 0 then (some false) else (if (rd l0_2 0) > 7 then (some false) else (if 1 ≤ (l0_2.length : Int) then ((fullerref02_Check.f kj2 (l0_2.drop 1)).bind fun t188 => (some t188)) else (none)))) else (none))) else (if a0_0 = 42 then (some ((l0_2.length : Int) == 3)) else (if a0_0 = 3 then (some ((l0_2.length : Int) == 1)) else (if a0_0 = 43 then (some ((l0_2.length : Int) == 1)) else (if a0_0 ≥ 50 then (some ((l0_2.length : Int) == 1)) else (some ((l0_2.length : Int) == 0))))))) = some r := by rw [if_neg (show ¬ (false = true) by decide)] at H; exact H
        clear H
        have H := H1
        clear H1
        by_cases c10 : a0_0 = 2
        · rw [if_pos c10] at H
          have c10b0 : (a0_0 == 2) = true := beq_iff_eq.mpr c10
          have c10b1 : (a0_0 != 2) = false := bne_eq_false_iff_eq.mpr c10
          clear c10
          by_cases c11 : (l0_2.length : Int) = 0
          · rw [if_pos c11] at H
            have c11b0 : ((l0_2.length : Int) == 0) = true := beq_iff_eq.mpr c11
            have c11b1 : ((l0_2.length : Int) != 0) = false := bne_eq_false_iff_eq.mpr c11
            clear c11
            obtain rfl := Option.some.inj H
            have hcz12_0 : wc.cell? ⟨gb183, 0, none⟩ = some (.int .i64 a0_0) := (blk_cell BK183.out 0).trans rfl
            have hcz12_1 : wc.cell? ⟨gb183, 1, none⟩ = some (.slice A0_1 l0_1.length c0_1) := (blk_cell BK183.out 1).trans rfl
            have hcz12_2 : wc.cell? ⟨gb183, 2, none⟩ = some (.slice A0_2 l0_2.length c0_2) := (blk_cell BK183.out 2).trans rfl
            have hfz12_0 := blk_frozen BK183.out 0
            have hfz12_1 := blk_frozen BK183.out 1
            have hfz12_2 := blk_frozen BK183.out 2
            go_wp2
            go_ret
            exact ⟨by first | rfl | (simp [errW_none, errW_some] <;> rfl) | (simp [*, errW_none, errW_some] <;> rfl), by repeat (first | (with_reducible first | exact HB.out | apply below_alloc | apply pw_below_drewN | apply below_drew1 | refine below_set ?_ GE183.out) | exact HB.out)⟩
          · rw [if_neg c11] at H
            have c11b0 : ((l0_2.length : Int) == 0) = false := beq_eq_false_iff_ne.mpr c11
            have c11b1 : ((l0_2.length : Int) != 0) = true := bne_iff_ne.mpr c11
            have c11b2 : ¬ (l0_2 = []) := fun h_ => c11 (by rw [h_]; rfl)
            by_cases c13 : 0 < (l0_2.length : Int)
            · rw [if_pos c13] at H
              have c13b0 : decide (0 < (l0_2.length : Int)) = true := decide_eq_true c13
              have c13b1 : decide (0 < l0_2.length) = true := decide_eq_true (by omega)
              clear c13
              by_cases c14 : (rd l0_2 0) < 0
              · rw [if_pos c14] at H
                have c14b0 : decide ((rd l0_2 0) < 0) = true := decide_eq_true c14
                clear c14
                obtain rfl := Option.some.inj H
                have hcz15_0 : wc.cell? ⟨gb183, 0, none⟩ = some (.int .i64 a0_0) := (blk_cell BK183.out 0).trans rfl
                have hcz15_1 : wc.cell? ⟨gb183, 1, none⟩ = some (.slice A0_1 l0_1.length c0_1) := (blk_cell BK183.out 1).trans rfl
                have hcz15_2 : wc.cell? ⟨gb183, 2, none⟩ = some (.slice A0_2 l0_2.length c0_2) := (blk_cell BK183.out 2).trans rfl
                have hfz15_0 := blk_frozen BK183.out 0
                have hfz15_1 := blk_frozen BK183.out 1
                have hfz15_2 := blk_frozen BK183.out 2
                have p185 : 0 ≤ (0 : Int) := (by omega)
                have q185 : 0 < (l0_2.length : Int) := od_
                obtain ⟨ad185, e185, hx185_0⟩ := Kd.at_int HR0_2.out 0 p185 q185
                cases e185
                have qi185 : (0 < l0_2.length) = True := eq_true (by omega)
                (try rw [show ((0 : Int)).toNat = 0 from rfl] at hx185_0)
                (try rw [Addr.add_zero'] at hx185_0)
                replace hx185_0 := (HB.out.cell (World.block_lt_of_cell? w _ hx185_0)).trans hx185_0
                replace p185 := eq_true p185
                replace q185 := eq_true q185
                go_wp2
                go_ret
                exact ⟨by first | rfl | (simp [errW_none, errW_some] <;> rfl) | (simp [*, errW_none, errW_some] <;> rfl), by repeat (first | (with_reducible first | exact HB.out | apply below_alloc | apply pw_below_drewN | apply below_drew1 | refine below_set ?_ GE183.out) | exact HB.out)⟩
              · rw [if_neg c14] at H
                have c14b0 : decide ((rd l0_2 0) < 0) = false := decide_eq_false c14
                clear c14
                by_cases c16 : (rd l0_2 0) > 7
                · rw [if_pos c16] at H
                  have c16b0 : decide (7 < (rd l0_2 0)) = true := decide_eq_true c16
                  clear c16
                  obtain rfl := Option.some.inj H
                  have hcz17_0 : wc.cell? ⟨gb183, 0, none⟩ = some (.int .i64 a0_0) := (blk_cell BK183.out 0).trans rfl
                  have hcz17_1 : wc.cell? ⟨gb183, 1, none⟩ = some (.slice A0_1 l0_1.length c0_1) := (blk_cell BK183.out 1).trans rfl
                  have hcz17_2 : wc.cell? ⟨gb183, 2, none⟩ = some (.slice A0_2 l0_2.length c0_2) := (blk_cell BK183.out 2).trans rfl
                  have hfz17_0 := blk_frozen BK183.out 0
                  have hfz17_1 := blk_frozen BK183.out 1
                  have hfz17_2 := blk_frozen BK183.out 2
                  have p185 : 0 ≤ (0 : Int) := (by omega)
                  have q185 : 0 < (l0_2.length : Int) := od_
                  obtain ⟨ad185, e185, hx185_0⟩ := Kd.at_int HR0_2.out 0 p185 q185
                  cases e185
                  have qi185 : (0 < l0_2.length) = True := eq_true (by omega)
                  (try rw [show ((0 : Int)).toNat = 0 from rfl] at hx185_0)
                  (try rw [Addr.add_zero'] at hx185_0)
                  replace hx185_0 := (HB.out.cell (World.block_lt_of_cell? w _ hx185_0)).trans hx185_0
                  replace p185 := eq_true p185
                  replace q185 := eq_true q185
                  have p186 : 0 ≤ (0 : Int) := (by omega)
                  have q186 : 0 < (l0_2.length : Int) := od_
                  obtain ⟨ad186, e186, hx186_0⟩ := Kd.at_int HR0_2.out 0 p186 q186
                  obtain rfl : ad185 = ad186 := (by injection e186)
                  have qi186 : (0 < l0_2.length) = True := eq_true (by omega)
                  (try rw [show ((0 : Int)).toNat = 0 from rfl] at hx186_0)
                  (try rw [Addr.add_zero'] at hx186_0)
                  replace hx186_0 := (HB.out.cell (World.block_lt_of_cell? w _ hx186_0)).trans hx186_0
                  replace p186 := eq_true p186
                  replace q186 := eq_true q186
                  go_wp2
                  go_ret
                  exact ⟨by first | rfl | (simp [errW_none, errW_some] <;> rfl) | (simp [*, errW_none, errW_some] <;> rfl), by repeat (first | (with_reducible first | exact HB.out | apply below_alloc | apply pw_below_drewN | apply below_drew1 | refine below_set ?_ GE183.out) | exact HB.out)⟩
                · rw [if_neg c16] at H
                  have c16b0 : decide (7 < (rd l0_2 0)) = false := decide_eq_false c16
                  clear c16
                  by_cases c18 : 1 ≤ (l0_2.length : Int)
                  · rw [if_pos c18] at H
                    have c18b0 := eq_true c18
                    have c18b1 : decide (1 ≤ (l0_2.length : Int)) = true := decide_eq_true c18
                    clear c18
                    replace H := Option.bind_eq_some_iff.mp H
                    obtain ⟨t188, A190, H⟩ := H
                    replace H : (some t188) = some r := H
                    have A19 := Aside0.mk A190
                    clear A190
                    obtain rfl := Option.some.inj H
                    have hcz20_0 : wc.cell? ⟨gb183, 0, none⟩ = some (.int .i64 a0_0) := (blk_cell BK183.out 0).trans rfl
                    have hcz20_1 : wc.cell? ⟨gb183, 1, none⟩ = some (.slice A0_1 l0_1.length c0_1) := (blk_cell BK183.out 1).trans rfl
                    have hcz20_2 : wc.cell? ⟨gb183, 2, none⟩ = some (.slice A0_2 l0_2.length c0_2) := (blk_cell BK183.out 2).trans rfl
                    have hfz20_0 := blk_frozen BK183.out 0
                    have hfz20_1 := blk_frozen BK183.out 1
                    have hfz20_2 := blk_frozen BK183.out 2
                    have p185 : 0 ≤ (0 : Int) := (by omega)
                    have q185 : 0 < (l0_2.length : Int) := od_
                    obtain ⟨ad185, e185, hx185_0⟩ := Kd.at_int HR0_2.out 0 p185 q185
                    cases e185
                    have qi185 : (0 < l0_2.length) = True := eq_true (by omega)
                    (try rw [show ((0 : Int)).toNat = 0 from rfl] at hx185_0)
                    (try rw [Addr.add_zero'] at hx185_0)
                    replace hx185_0 := (HB.out.cell (World.block_lt_of_cell? w _ hx185_0)).trans hx185_0
                    replace p185 := eq_true p185
                    replace q185 := eq_true q185
                    have p186 : 0 ≤ (0 : Int) := (by omega)
                    have q186 : 0 < (l0_2.length : Int) := od_
                    obtain ⟨ad186, e186, hx186_0⟩ := Kd.at_int HR0_2.out 0 p186 q186
                    obtain rfl : ad185 = ad186 := (by injection e186)
                    have qi186 : (0 < l0_2.length) = True := eq_true (by omega)
                    (try rw [show ((0 : Int)).toNat = 0 from rfl] at hx186_0)
                    (try rw [Addr.add_zero'] at hx186_0)
                    replace hx186_0 := (HB.out.cell (World.block_lt_of_cell? w _ hx186_0)).trans hx186_0
                    replace p186 := eq_true p186
                    replace q186 := eq_true q186
                    obtain ⟨i021, hi021, _, hsz21, _⟩ := info_parts info3
                    obtain ⟨A21, hcut21, hA21, hC21⟩ := print_drop_of (P := Try.prog) (Value.int .i64) 0 34 3 .i64 Try.underlying34 hi021 hsz21 (some ad185) c0_2 l0_2 1 (by omega) od_ HC0_2.out
                    have HR187 := Aside0.mk (Kd.C_of_reads (h1 := fun _ => rfl) (hA21 _ (Kd.reads_of_C HR0_2.out)))
                    have HC187 := Aside0.mk hC21
                    clear hA21 hC21 hi021 hsz21
                    go_wp2_with (first | ((with_reducible refine gate_callee (f := 45) rfl ?_); refine goesL_ (some 40) rfl rfl Try.func45 (by kernel_rfl) rfl #[.slice A21 (l0_2.drop 1).length (c0_2 - 1)] rfl (by (try simp only [List.map_toArray, List.map_cons, List.map_nil]); first | done | (rw [show (l0_2.drop 1).length = (l0_2.length - 1) from List.length_drop] <;> rfl) | rfl | (simp only [List.length_drop, List.length_take]; rfl)) ?_; (with_reducible refine (fullerref02_Check.calls kj2 _ _ (l0_2.drop 1) t188 _ ?side1 ?side2 A19.out).mono ?_); (case side1 => exact mvC_ ((Kd.C_below HR187.out HB.out))); (case side2 => exact HC187.out); rintro e w' ⟨rfl, ⟨nd, rfl⟩⟩; refine ⟨_, rfl, ?_⟩))
                    go_ret
                    exact ⟨by first | rfl | (simp [errW_none, errW_some] <;> rfl) | (simp [*, errW_none, errW_some] <;> rfl), by repeat (first | (with_reducible first | exact HB.out | apply below_alloc | apply pw_below_drewN | apply below_drew1 | refine below_set ?_ GE183.out) | exact HB.out)⟩
                  · rw [if_neg c18] at H
                    exact absurd H (by simp)
            · rw [if_neg c13] at H
              exact absurd H (by simp)
        · rw [if_neg c10] at H
          have c10b0 : (a0_0 == 2) = false := beq_eq_false_iff_ne.mpr c10
          have c10b1 : (a0_0 != 2) = true := bne_iff_ne.mpr c10
          by_cases c22 : a0_0 = 42
          · rw [if_pos c22] at H
            have c22b0 : (a0_0 == 42) = true := beq_iff_eq.mpr c22
            have c22b1 : (a0_0 != 42) = false := bne_eq_false_iff_eq.mpr c22
            clear c22
            obtain rfl := Option.some.inj H
            have hcz23_0 : wc.cell? ⟨gb183, 0, none⟩ = some (.int .i64 a0_0) := (blk_cell BK183.out 0).trans rfl
            have hcz23_1 : wc.cell? ⟨gb183, 1, none⟩ = some (.slice A0_1 l0_1.length c0_1) := (blk_cell BK183.out 1).trans rfl
            have hcz23_2 : wc.cell? ⟨gb183, 2, none⟩ = some (.slice A0_2 l0_2.length c0_2) := (blk_cell BK183.out 2).trans rfl
            have hfz23_0 := blk_frozen BK183.out 0
            have hfz23_1 := blk_frozen BK183.out 1
            have hfz23_2 := blk_frozen BK183.out 2
            go_wp2
            go_ret
            exact ⟨by first | rfl | (simp [errW_none, errW_some] <;> rfl) | (simp [*, errW_none, errW_some] <;> rfl), by repeat (first | (with_reducible first | exact HB.out | apply below_alloc | apply pw_below_drewN | apply below_drew1 | refine below_set ?_ GE183.out) | exact HB.out)⟩
          · rw [if_neg c22] at H
            have c22b0 : (a0_0 == 42) = false := beq_eq_false_iff_ne.mpr c22
            have c22b1 : (a0_0 != 42) = true := bne_iff_ne.mpr c22
            by_cases c24 : a0_0 = 3
            · rw [if_pos c24] at H
              have c24b0 : (a0_0 == 3) = true := beq_iff_eq.mpr c24
              have c24b1 : (a0_0 != 3) = false := bne_eq_false_iff_eq.mpr c24
              clear c24
              obtain rfl := Option.some.inj H
              have hcz25_0 : wc.cell? ⟨gb183, 0, none⟩ = some (.int .i64 a0_0) := (blk_cell BK183.out 0).trans rfl
              have hcz25_1 : wc.cell? ⟨gb183, 1, none⟩ = some (.slice A0_1 l0_1.length c0_1) := (blk_cell BK183.out 1).trans rfl
              have hcz25_2 : wc.cell? ⟨gb183, 2, none⟩ = some (.slice A0_2 l0_2.length c0_2) := (blk_cell BK183.out 2).trans rfl
              have hfz25_0 := blk_frozen BK183.out 0
              have hfz25_1 := blk_frozen BK183.out 1
              have hfz25_2 := blk_frozen BK183.out 2
              go_wp2
              go_ret
              exact ⟨by first | rfl | (simp [errW_none, errW_some] <;> rfl) | (simp [*, errW_none, errW_some] <;> rfl), by repeat (first | (with_reducible first | exact HB.out | apply below_alloc | apply pw_below_drewN | apply below_drew1 | refine below_set ?_ GE183.out) | exact HB.out)⟩
            · rw [if_neg c24] at H
              have c24b0 : (a0_0 == 3) = false := beq_eq_false_iff_ne.mpr c24
              have c24b1 : (a0_0 != 3) = true := bne_iff_ne.mpr c24
              by_cases c26 : a0_0 = 43
              · rw [if_pos c26] at H
                have c26b0 : (a0_0 == 43) = true := beq_iff_eq.mpr c26
                have c26b1 : (a0_0 != 43) = false := bne_eq_false_iff_eq.mpr c26
                clear c26
                obtain rfl := Option.some.inj H
                have hcz27_0 : wc.cell? ⟨gb183, 0, none⟩ = some (.int .i64 a0_0) := (blk_cell BK183.out 0).trans rfl
                have hcz27_1 : wc.cell? ⟨gb183, 1, none⟩ = some (.slice A0_1 l0_1.length c0_1) := (blk_cell BK183.out 1).trans rfl
                have hcz27_2 : wc.cell? ⟨gb183, 2, none⟩ = some (.slice A0_2 l0_2.length c0_2) := (blk_cell BK183.out 2).trans rfl
                have hfz27_0 := blk_frozen BK183.out 0
                have hfz27_1 := blk_frozen BK183.out 1
                have hfz27_2 := blk_frozen BK183.out 2
                go_wp2
                go_ret
                exact ⟨by first | rfl | (simp [errW_none, errW_some] <;> rfl) | (simp [*, errW_none, errW_some] <;> rfl), by repeat (first | (with_reducible first | exact HB.out | apply below_alloc | apply pw_below_drewN | apply below_drew1 | refine below_set ?_ GE183.out) | exact HB.out)⟩
              · rw [if_neg c26] at H
                have c26b0 : (a0_0 == 43) = false := beq_eq_false_iff_ne.mpr c26
                have c26b1 : (a0_0 != 43) = true := bne_iff_ne.mpr c26
                by_cases c28 : a0_0 ≥ 50
                · rw [if_pos c28] at H
                  have c28b0 : decide (50 ≤ a0_0) = true := decide_eq_true c28
                  clear c28
                  obtain rfl := Option.some.inj H
                  have hcz29_0 : wc.cell? ⟨gb183, 0, none⟩ = some (.int .i64 a0_0) := (blk_cell BK183.out 0).trans rfl
                  have hcz29_1 : wc.cell? ⟨gb183, 1, none⟩ = some (.slice A0_1 l0_1.length c0_1) := (blk_cell BK183.out 1).trans rfl
                  have hcz29_2 : wc.cell? ⟨gb183, 2, none⟩ = some (.slice A0_2 l0_2.length c0_2) := (blk_cell BK183.out 2).trans rfl
                  have hfz29_0 := blk_frozen BK183.out 0
                  have hfz29_1 := blk_frozen BK183.out 1
                  have hfz29_2 := blk_frozen BK183.out 2
                  go_wp2
                  go_ret
                  exact ⟨by first | rfl | (simp [errW_none, errW_some] <;> rfl) | (simp [*, errW_none, errW_some] <;> rfl), by repeat (first | (with_reducible first | exact HB.out | apply below_alloc | apply pw_below_drewN | apply below_drew1 | refine below_set ?_ GE183.out) | exact HB.out)⟩
                · rw [if_neg c28] at H
                  have c28b0 : decide (50 ≤ a0_0) = false := decide_eq_false c28
                  clear c28
                  obtain rfl := Option.some.inj H
                  have hcz30_0 : wc.cell? ⟨gb183, 0, none⟩ = some (.int .i64 a0_0) := (blk_cell BK183.out 0).trans rfl
                  have hcz30_1 : wc.cell? ⟨gb183, 1, none⟩ = some (.slice A0_1 l0_1.length c0_1) := (blk_cell BK183.out 1).trans rfl
                  have hcz30_2 : wc.cell? ⟨gb183, 2, none⟩ = some (.slice A0_2 l0_2.length c0_2) := (blk_cell BK183.out 2).trans rfl
                  have hfz30_0 := blk_frozen BK183.out 0
                  have hfz30_1 := blk_frozen BK183.out 1
                  have hfz30_2 := blk_frozen BK183.out 2
                  go_wp2
                  go_ret
                  exact ⟨by first | rfl | (simp [errW_none, errW_some] <;> rfl) | (simp [*, errW_none, errW_some] <;> rfl), by repeat (first | (with_reducible first | exact HB.out | apply below_alloc | apply pw_below_drewN | apply below_drew1 | refine below_set ?_ GE183.out) | exact HB.out)⟩

end Go.Proofs.Ytchmfdaebohplaa.A
