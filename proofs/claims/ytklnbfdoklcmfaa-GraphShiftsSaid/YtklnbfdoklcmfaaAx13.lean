/- Lean functions that answer as the Go functions do, and the proofs that they do; no conditions. Written by this session's own driver: a scratch copy of the kit's print with the session's additions (wip/xprint). -/
import Derived.Test.YtklnbfdoklcmfaaAx0
import Derived.Test.YtklnbfdoklcmfaaAx3
import Derived.Test.YtklnbfdoklcmfaaAx12
namespace Go.Proofs.Ytklnbfdoklcmfaa.A
open Go.RowKit Go.Proofs.YtklnbfdoklcmfaaW.PrintWords Go.Proofs.YtklnbfdoklcmfaaW.PrintLast Go.Proofs.YtklnbfdoklcmfaaW.PrintMore
attribute [local go_sem] max2_int min2_int max_two min_two max_three min_three max_four min_four   -- for this text's walks alone
set_option linter.unusedVariables false
set_option linter.unusedSimpArgs false

/-! ### fullerref02_Check: function 41 -/
def fullerref02_Check.l0 : Nat → List Int → Int → Option (Bool)
  | 0, _, _ => none
  | k + 1, x0, x3 => if x3 < (x0.length : Int) then (if 0 ≤ x3 then (if (rd x0 x3) < 1 then (some false) else (if (rd x0 x3) > 16 then (some false) else (fullerref02_Check.l0 k x0 (wrap64 (x3 + 1))))) else (none)) else ((fullerref02_product.f k x0).bind fun t310 => (some (decide (t310 ≤ 64))))
def fullerref02_Check.f (k : Nat) (l0 : List Int) : Option (Bool) := if (l0.length : Int) > 3 then (some false) else (fullerref02_Check.l0 k l0 0)
theorem fullerref02_Check.mono_l : ∀ k, (∀ y0 y1, LeO (fullerref02_Check.l0 k y0 y1) (fullerref02_Check.l0 (k + 1) y0 y1))
  | 0 => fun _ _ r h => by simp [fullerref02_Check.l0] at h
  | k + 1 => by
    have ih0 := fullerref02_Check.mono_l k
    · intro y0 y1
      unfold fullerref02_Check.l0
      repeat' first
      | (with_reducible exact ih0 _ _)
      | (with_reducible exact fullerref02_product.mono _ _)
      | (with_reducible exact LeO.refl _)
      | (with_reducible exact LeO.none _)
      | (with_reducible refine LeO.ite ?_ ?_)
      | (with_reducible refine LeO.bind ?_ (fun _ => ?_))
      | exact ih0 _ _
      | exact fullerref02_product.mono _ _
      | exact LeO.none _
      | refine LeO.ite ?_ ?_
      | refine LeO.bind ?_ (fun _ => ?_)
theorem fullerref02_Check.mono : ∀ a0 k, LeO (fullerref02_Check.f k a0) (fullerref02_Check.f (k + 1) a0) := by
  intro a0 k
  have ih0 := fullerref02_Check.mono_l k
  unfold fullerref02_Check.f
  repeat' first
      | (with_reducible exact ih0 _ _)
      | (with_reducible exact fullerref02_product.mono _ _)
      | (with_reducible exact LeO.refl _)
      | (with_reducible exact LeO.none _)
      | (with_reducible refine LeO.ite ?_ ?_)
      | (with_reducible refine LeO.bind ?_ (fun _ => ?_))
      | exact ih0 _ _
      | exact fullerref02_product.mono _ _
      | exact LeO.none _
      | refine LeO.ite ?_ ?_
      | refine LeO.bind ?_ (fun _ => ?_)
set_option maxHeartbeats 8000000 in
set_option maxRecDepth 100000 in
theorem fullerref02_Check.calls (k : Nat) (A0 : Option Addr) (c0 : Nat) (l0 : List Int) (r : Bool) (w : World) (hr0 : Kd.C (Kd.int .i64) w A0 l0.length l0) (hc0 : l0.length ≤ c0) (h : fullerref02_Check.f k l0 = some r) :
    Calls Try.prog 41 #[.slice A0 l0.length c0] w fun e w' => e = .returned (.bool r) ∧ Drawn0 w w' := by
  have HR0 := Aside0.mk hr0
  have HC0 := Aside0.mk hc0
  clear hr0 hc0
  have H : (if (l0.length : Int) > 3 then (some false) else (fullerref02_Check.l0 k l0 0)) = some r := h
  clear h
  by_cases c2 : (l0.length : Int) > 3
  · rw [if_pos c2] at H
    have c2b0 : decide (3 < (l0.length : Int)) = true := decide_eq_true c2
    have c2b1 : decide (3 < l0.length) = true := decide_eq_true (by omega)
    clear c2
    obtain rfl := Option.some.inj H
    go_enter Try.func41, Try.ntmps41
    go_wp2
    go_ret
    exact ⟨by first | rfl | (simp; done) | (simp [*]; done), by repeat (first | exact Drawn0.refl _ | apply Drawn0.step)⟩
  · rw [if_neg c2] at H
    have c2b0 : decide (3 < (l0.length : Int)) = false := decide_eq_false c2
    have c2b1 : decide (3 < l0.length) = false := decide_eq_false (by omega)
    clear c2
    have H' := Aside0.mk H
    clear H
    go_enter Try.func41, Try.ntmps41
    go_wp2
    go_loopg [3] k (fun kq v3 w' => ∃ (x3_1 : Int), v3 = .int .i64 x3_1 ∧ Aside0 (fullerref02_Check.l0 kq l0 x3_1 = some r) ∧ Aside0 (kq ≤ k) ∧ Drawn0 w w')
    case atStart => exact ⟨(0), (by first | rfl | (simp; done) | (simp [*]; done)), H', ⟨Nat.le_refl _⟩, by repeat (first | exact Drawn0.refl _ | apply Drawn0.step)⟩
    case round =>
      clear H'
      try clear c2
      try clear c2b0
      try clear c2b1
      try clear p2
      obtain ⟨x3_1, rfl, HA, HK1, ⟨m1, rfl⟩⟩ := hrel
      cases gk with
      | zero => exact absurd HA.out (by simp [fullerref02_Check.l0])
      | succ k1 =>
        have H := HA.out
        clear HA
        simp only [fullerref02_Check.l0] at H
        by_cases c3 : x3_1 < (l0.length : Int)
        · rw [if_pos c3] at H
          have c3b0 : decide (x3_1 < (l0.length : Int)) = true := decide_eq_true c3
          clear c3
          by_cases c4 : 0 ≤ x3_1
          · rw [if_pos c4] at H
            have c4b0 : decide (0 ≤ x3_1) = true := decide_eq_true c4
            clear c4
            by_cases c5 : (rd l0 x3_1) < 1
            · rw [if_pos c5] at H
              have c5b0 : decide ((rd l0 x3_1) < 1) = true := decide_eq_true c5
              clear c5
              obtain rfl := Option.some.inj H
              have p308 : 0 ≤ (x3_1 : Int) := of_decide_eq_true (by first | (with_reducible assumption) | assumption)
              have q308 : x3_1 < (l0.length : Int) := of_decide_eq_true (by first | (with_reducible assumption) | assumption)
              obtain ⟨ad308, e308, hx308_0⟩ := Kd.at_int HR0.out x3_1 p308 q308
              cases e308
              replace p308 := eq_true p308
              replace q308 := eq_true q308
              go_wp2
              go_ret
              exact ⟨by first | rfl | (simp; done) | (simp [*]; done), by repeat (first | exact Drawn0.refl _ | apply Drawn0.step)⟩
            · rw [if_neg c5] at H
              have c5b0 : decide ((rd l0 x3_1) < 1) = false := decide_eq_false c5
              clear c5
              by_cases c6 : (rd l0 x3_1) > 16
              · rw [if_pos c6] at H
                have c6b0 : decide (16 < (rd l0 x3_1)) = true := decide_eq_true c6
                clear c6
                obtain rfl := Option.some.inj H
                have p308 : 0 ≤ (x3_1 : Int) := of_decide_eq_true (by first | (with_reducible assumption) | assumption)
                have q308 : x3_1 < (l0.length : Int) := of_decide_eq_true (by first | (with_reducible assumption) | assumption)
                obtain ⟨ad308, e308, hx308_0⟩ := Kd.at_int HR0.out x3_1 p308 q308
                cases e308
                replace p308 := eq_true p308
                replace q308 := eq_true q308
                have p309 : 0 ≤ (x3_1 : Int) := of_decide_eq_true (by first | (with_reducible assumption) | assumption)
                have q309 : x3_1 < (l0.length : Int) := of_decide_eq_true (by first | (with_reducible assumption) | assumption)
                obtain ⟨ad309, e309, hx309_0⟩ := Kd.at_int HR0.out x3_1 p309 q309
                obtain rfl : ad308 = ad309 := (by injection e309)
                replace p309 := eq_true p309
                replace q309 := eq_true q309
                go_wp2
                go_ret
                exact ⟨by first | rfl | (simp; done) | (simp [*]; done), by repeat (first | exact Drawn0.refl _ | apply Drawn0.step)⟩
              · rw [if_neg c6] at H
                have c6b0 : decide (16 < (rd l0 x3_1)) = false := decide_eq_false c6
                clear c6
                have H' := Aside0.mk H
                clear H
                have p308 : 0 ≤ (x3_1 : Int) := of_decide_eq_true (by first | (with_reducible assumption) | assumption)
                have q308 : x3_1 < (l0.length : Int) := of_decide_eq_true (by first | (with_reducible assumption) | assumption)
                obtain ⟨ad308, e308, hx308_0⟩ := Kd.at_int HR0.out x3_1 p308 q308
                cases e308
                replace p308 := eq_true p308
                replace q308 := eq_true q308
                have p309 : 0 ≤ (x3_1 : Int) := of_decide_eq_true (by first | (with_reducible assumption) | assumption)
                have q309 : x3_1 < (l0.length : Int) := of_decide_eq_true (by first | (with_reducible assumption) | assumption)
                obtain ⟨ad309, e309, hx309_0⟩ := Kd.at_int HR0.out x3_1 p309 q309
                obtain rfl : ad308 = ad309 := (by injection e309)
                replace p309 := eq_true p309
                replace q309 := eq_true q309
                go_wp2
                go_roundg k1
                case measure => have := HK1.out; omega
                case rel => exact ⟨(wrap64 (x3_1 + 1)), (by first | rfl | (simp; done) | (simp [*]; done)), H', ⟨by have := HK1.out; omega⟩, by repeat (first | exact Drawn0.refl _ | apply Drawn0.step)⟩
          · rw [if_neg c4] at H
            exact absurd H (by simp)
        · rw [if_neg c3] at H
          have c3b0 : decide (x3_1 < (l0.length : Int)) = false := decide_eq_false c3
          clear c3
          replace H := Option.bind_eq_some_iff.mp H
          obtain ⟨t310, A70, H⟩ := H
          replace H : (some (decide (t310 ≤ 64))) = some r := H
          have A7 := Aside0.mk A70
          clear A70
          obtain rfl := Option.some.inj H
          go_wp2_with (first | ((with_reducible refine gate_callee (f := 44) rfl ?_); refine gL_ (some 26) Try.func44 #[.slice A0 l0.length c0] ?_; (with_reducible refine (fullerref02_product.calls k1 _ _ l0 t310 _ ?side1 ?side2 A7.out).mono ?_); (case side1 => repeat (first | exact HR0.out | (with_reducible refine Kd.C_alloc ?_ _) | (with_reducible refine Kd.C_drewN ?_ _) | (with_reducible refine Kd.C_drew ?_))); (case side2 => exact HC0.out); rintro e w' ⟨rfl, ⟨nd, rfl⟩⟩; refine ⟨_, rfl, ?_⟩))
          go_ret
          exact ⟨by first | rfl | (simp; done) | (simp [*]; done), by repeat (first | exact Drawn0.refl _ | apply Drawn0.step)⟩

/-! ### fullerref10_nums: function 34 -/
def fullerref10_nums.j0 : Nat → Bool → Bool → Int → List Int → List Int → Option (Bool)
 | 0, _, _, _, _, _ => none
 | k + 1, x3, x14, x312000, x312001, x312002 => if x14 = true then (some x3) else (if x312000 = 2 then (if (x312002.length : Int) = 0 then (some false) else (if 0 < (x312002.length : Int) then (if (rd x312002 0) < 0 then (some false) else (if (rd x312002 0) > 7 then (some false) else (if 1 ≤ (x312002.length : Int) then ((fullerref02_Check.f k (x312002.drop 1)).bind fun t316 => (some t316)) else (none)))) else (none))) else (if x312000 = 42 then (some ((x312002.length : Int) == 3)) else (if x312000 = 3 then (some ((x312002.length : Int) == 1)) else (if x312000 = 43 then (some ((x312002.length : Int) == 1)) else (if x312000 ≥ 50 then (some ((x312002.length : Int) == 1)) else (some ((x312002.length : Int) == 0)))))))
def fullerref10_nums.f (k : Nat) (a0_0 : Int) (l0_1 : List Int) (l0_2 : List Int) : Option (Bool) := (fullerref02_Check.f k l0_2).bind fun t312 => (if a0_0 = 1 then (fullerref10_nums.j0 k t312 true a0_0 l0_1 l0_2) else (fullerref10_nums.j0 k t312 (a0_0 == 40) a0_0 l0_1 l0_2))
theorem fullerref10_nums.mono_l : ∀ k, (∀ y0 y1 y2 y3 y4, LeO (fullerref10_nums.j0 k y0 y1 y2 y3 y4) (fullerref10_nums.j0 (k + 1) y0 y1 y2 y3 y4))
 | 0 => fun _ _ _ _ _ r h => by simp [fullerref10_nums.j0] at h
 | k + 1 => by
  have ih0 := fullerref10_nums.mono_l k
  ·intro y0 y1 y2 y3 y4
   unfold fullerref10_nums.j0
   repeat' first
   | (with_reducible exact ih0 _ _ _ _ _)
   | (with_reducible exact fullerref02_Check.mono _ _)
   | (with_reducible exact LeO.refl _)
   | (with_reducible exact LeO.none _)
   | (with_reducible refine LeO.ite ?_ ?_)
   | (with_reducible refine LeO.bind ?_ (fun _ => ?_))
   | exact ih0 _ _ _ _ _
   | exact fullerref02_Check.mono _ _
   | exact LeO.none _
   | refine LeO.ite ?_ ?_
   | refine LeO.bind ?_ (fun _ => ?_)
theorem fullerref10_nums.mono : ∀ a0 a1 a2 k, LeO (fullerref10_nums.f k a0 a1 a2) (fullerref10_nums.f (k + 1) a0 a1 a2) := by
 intro a0 a1 a2 k
 have ih0 := fullerref10_nums.mono_l k
 unfold fullerref10_nums.f
 repeat' first
   | (with_reducible exact ih0 _ _ _ _ _)
   | (with_reducible exact fullerref02_Check.mono _ _)
   | (with_reducible exact LeO.refl _)
   | (with_reducible exact LeO.none _)
   | (with_reducible refine LeO.ite ?_ ?_)
   | (with_reducible refine LeO.bind ?_ (fun _ => ?_))
   | exact ih0 _ _ _ _ _
   | exact fullerref02_Check.mono _ _
   | exact LeO.none _
   | refine LeO.ite ?_ ?_
   | refine LeO.bind ?_ (fun _ => ?_)
set_option maxHeartbeats 8000000 in
set_option maxRecDepth 100000 in
theorem fullerref10_nums.calls (k : Nat) (a0_0 : Int) (A0_1 : Option Addr) (c0_1 : Nat) (l0_1 : List Int) (A0_2 : Option Addr) (c0_2 : Nat) (l0_2 : List Int) (r : Bool) (w : World) (hr0_1 : Kd.C (Kd.int .i64) w A0_1 l0_1.length l0_1) (hc0_1 : l0_1.length ≤ c0_1) (hr0_2 : Kd.C (Kd.int .i64) w A0_2 l0_2.length l0_2) (hc0_2 : l0_2.length ≤ c0_2) (h : fullerref10_nums.f k a0_0 l0_1 l0_2 = some r) :
  Calls Try.prog 34 #[.agg #[.int .i64 a0_0, .slice A0_1 l0_1.length c0_1, .slice A0_2 l0_2.length c0_2]] w fun e w' => e = .returned (.bool r) ∧ Below w.heap.size w w' := by
 have hu35 := Try.underlying35
 have HR0_1 := Aside0.mk hr0_1
 have HC0_1 := Aside0.mk hc0_1
 clear hr0_1 hc0_1
 have HR0_2 := Aside0.mk hr0_2
 have HC0_2 := Aside0.mk hc0_2
 clear hr0_2 hc0_2
 have HB := Aside0.mk (Below.refl w.heap.size w)
 have H : ((fullerref02_Check.f k l0_2).bind fun t312 => (if a0_0 = 1 then (fullerref10_nums.j0 k t312 true a0_0 l0_1 l0_2) else (fullerref10_nums.j0 k t312 (a0_0 == 40) a0_0 l0_1 l0_2))) = some r := h
 clear h
 replace H := Option.bind_eq_some_iff.mp H
 obtain ⟨t312, A20, H⟩ := H
 replace H : (if a0_0 = 1 then (fullerref10_nums.j0 k t312 true a0_0 l0_1 l0_2) else (fullerref10_nums.j0 k t312 (a0_0 == 40) a0_0 l0_1 l0_2)) = some r := H
 have A2 := Aside0.mk A20
 clear A20
 have HC3 := Aside0.mk H
 clear H
 go_enter Try.func34, Try.ntmps34
 go_upto_region 2 with (first | ((with_reducible refine gate_dst (N := 1) rfl ?_); refine box_event ?hg (N := 1) ?hd (cs := #[.int .i64 a0_0, .slice A0_1 l0_1.length c0_1, .slice A0_2 l0_2.length c0_2]) (t := 35) ?hr ?_; (case hd => rfl); (case hg => rfl); (case hr => first | (go_simp; done) | (go_simp; rfl)); intro gb311 hg w4 hbox hb; have BK311 := Aside0.mk (hbox); have GW311 := Aside0.mk ((by rw [hg]; exact (below_size (bq0_ HB.out)) : w.heap.size ≤ gb311)); have GE311 := Aside0.mk ((by rw [hg]; exact (below_size (bq0_ HB.out)) : w.heap.size ≤ gb311)); replace HB := Aside0.mk (below_step (bq0_ HB.out) hb); clear hb hbox hg; have hcz5_0 : w4.cell? ⟨gb311, 0, none⟩ = some (.int .i64 a0_0) := (blk_cell BK311.out 0).trans rfl; have hcz5_1 : w4.cell? ⟨gb311, 1, none⟩ = some (.slice A0_1 l0_1.length c0_1) := (blk_cell BK311.out 1).trans rfl; have hcz5_2 : w4.cell? ⟨gb311, 2, none⟩ = some (.slice A0_2 l0_2.length c0_2) := (blk_cell BK311.out 2).trans rfl; have hfz5_0 := blk_frozen BK311.out 0; have hfz5_1 := blk_frozen BK311.out 1; have hfz5_2 := blk_frozen BK311.out 2) | ((with_reducible refine gate_callee (f := 41) rfl ?_); refine gL_ (some 6) Try.func41 #[.slice A0_2 l0_2.length c0_2] ?_; (with_reducible refine (fullerref02_Check.calls k _ _ l0_2 t312 _ ?side1 ?side2 A2.out).mono ?_); (case side1 => exact mvC_ ((Kd.C_below HR0_2.out HB.out))); (case side2 => exact HC0_2.out); rintro e w' ⟨rfl, ⟨nd, rfl⟩⟩; refine ⟨_, rfl, ?_⟩))
 (try simp only [Act.put, sA_, sB_, sC_])
 go_cut [14] (fun v14 wc => ∃ (kq : Nat) (x14_2 : Bool), v14 = .bool x14_2 ∧ Aside0 (fullerref10_nums.j0 kq t312 x14_2 a0_0 l0_1 l0_2 = some r) ∧ Aside0 (kq ≤ k) ∧ Aside0 (wc.heap[gb311]? = some (.cells #[.int .i64 a0_0, (.slice A0_1 l0_1.length c0_1), (.slice A0_2 l0_2.length c0_2)] 35 (0, 0))) ∧ Aside0 (Below w.heap.size w wc))
 case first =>
  have H := HC3.out
  clear HC3
  by_cases c6 : a0_0 = 1
  ·rw [if_pos c6] at H
   obtain ⟨c6b0, c6b1⟩ := eqT_ c6
   clear c6
   (first | rw [c6b0] | (simp only [i64_w, i32_w]; rw [c6b0]) | skip)
   have H' := Aside0.mk H
   clear H
   have hcz7_0 : w4.cell? ⟨gb311, 0, none⟩ = some (.int .i64 a0_0) := (blk_cell BK311.out 0).trans rfl
   have hcz7_1 : w4.cell? ⟨gb311, 1, none⟩ = some (.slice A0_1 l0_1.length c0_1) := (blk_cell BK311.out 1).trans rfl
   have hcz7_2 : w4.cell? ⟨gb311, 2, none⟩ = some (.slice A0_2 l0_2.length c0_2) := (blk_cell BK311.out 2).trans rfl
   have hfz7_0 := blk_frozen BK311.out 0
   have hfz7_1 := blk_frozen BK311.out 1
   have hfz7_2 := blk_frozen BK311.out 2
   go_wp2
   go_meet
   case rel => exact ⟨_, (true), (by first | rfl | (simp; done) | (simp [*]; done)), H', ⟨by first | omega | exact Nat.le_refl _⟩, ⟨by (with_reducible repeat (first | refine blk_drewN ?_ _ | refine blk_drew ?_ | refine blk_alloc ?_ _)); exact BK311.out⟩, ⟨bq1_ HB.out GE311.out⟩⟩
  ·rw [if_neg c6] at H
   have c6b0 : (a0_0 == 1) = false := beq_eq_false_iff_ne.mpr c6
   have c6b1 : (a0_0 != 1) = true := bne_iff_ne.mpr c6
   (first | rw [c6b0] | (simp only [i64_w, i32_w]; rw [c6b0]) | skip)
   have H' := Aside0.mk H
   clear H
   have hcz8_0 : w4.cell? ⟨gb311, 0, none⟩ = some (.int .i64 a0_0) := (blk_cell BK311.out 0).trans rfl
   have hcz8_1 : w4.cell? ⟨gb311, 1, none⟩ = some (.slice A0_1 l0_1.length c0_1) := (blk_cell BK311.out 1).trans rfl
   have hcz8_2 : w4.cell? ⟨gb311, 2, none⟩ = some (.slice A0_2 l0_2.length c0_2) := (blk_cell BK311.out 2).trans rfl
   have hfz8_0 := blk_frozen BK311.out 0
   have hfz8_1 := blk_frozen BK311.out 1
   have hfz8_2 := blk_frozen BK311.out 2
   go_wp2
   go_meet
   case rel => exact ⟨_, ((a0_0 == 40)), (by first | rfl | (simp; done) | (simp [*]; done)), H', ⟨by first | omega | exact Nat.le_refl _⟩, ⟨by (with_reducible repeat (first | refine blk_drewN ?_ _ | refine blk_drew ?_ | refine blk_alloc ?_ _)); exact BK311.out⟩, ⟨bq1_ HB.out GE311.out⟩⟩
 case rest =>
  clear HC3
  try clear p2
  try clear c3
  try clear c4
  try clear c6
  try clear c6b0
  try clear c6b1
  try clear hcz5_0
  try clear hcz5_1
  try clear hcz5_2
  try clear hcz7_0
  try clear hcz7_1
  try clear hcz7_2
  try clear hcz8_0
  try clear hcz8_1
  try clear hcz8_2
  try clear hfz5_0
  try clear hfz5_1
  try clear hfz5_2
  try clear hfz7_0
  try clear hfz7_1
  try clear hfz7_2
  try clear hfz8_0
  try clear hfz8_1
  try clear hfz8_2
  obtain ⟨kq, x14_2, rfl, HA, HJ2, BK311, HB⟩ := hcut
  cases kq with
  | zero => exact absurd HA.out (by simp [fullerref10_nums.j0])
  | succ kj2 =>
   have H := HA.out
   clear HA
   simp only [fullerref10_nums.j0] at H
   by_cases c9 : x14_2 = true
   ·subst c9
    have H1 : (some t312) = some r := by rw [if_pos rfl] at H; exact H
    clear H
    have H := H1
    clear H1
    obtain rfl := Option.some.inj H
    go_wp2
    go_ret
    exact ⟨by first | rfl | (simp <;> rfl) | (simp [*] <;> rfl), bq1_ HB.out GE311.out⟩
   ·replace c9 := Bool.eq_false_iff.mpr c9
    subst c9
    have H1 : (if a0_0 = 2 then (if (l0_2.length : Int) = 0 then (some false) else (if 0 < (l0_2.length : Int) then (if (rd l0_2 0) < 0 then (some false) else (if (rd l0_2 0) > 7 then (some false) else (if 1 ≤ (l0_2.length : Int) then ((fullerref02_Check.f kj2 (l0_2.drop 1)).bind fun t316 => (some t316)) else (none)))) else (none))) else (if a0_0 = 42 then (some ((l0_2.length : Int) == 3)) else (if a0_0 = 3 then (some ((l0_2.length : Int) == 1)) else (if a0_0 = 43 then (some ((l0_2.length : Int) == 1)) else (if a0_0 ≥ 50 then (some ((l0_2.length : Int) == 1)) else (some ((l0_2.length : Int) == 0))))))) = some r := by rw [if_neg (show ¬ (false = true) by decide)] at H; exact H
    clear H
    have H := H1
    clear H1
    by_cases c10 : a0_0 = 2
    ·rw [if_pos c10] at H
     obtain ⟨c10b0, c10b1⟩ := eqT_ c10
     clear c10
     by_cases c11 : (l0_2.length : Int) = 0
     ·rw [if_pos c11] at H
      obtain ⟨c11b0, c11b1⟩ := eqT_ c11
      clear c11
      obtain rfl := Option.some.inj H
      have hcz12_0 : wc.cell? ⟨gb311, 0, none⟩ = some (.int .i64 a0_0) := (blk_cell BK311.out 0).trans rfl
      have hcz12_1 : wc.cell? ⟨gb311, 1, none⟩ = some (.slice A0_1 l0_1.length c0_1) := (blk_cell BK311.out 1).trans rfl
      have hcz12_2 : wc.cell? ⟨gb311, 2, none⟩ = some (.slice A0_2 l0_2.length c0_2) := (blk_cell BK311.out 2).trans rfl
      have hfz12_0 := blk_frozen BK311.out 0
      have hfz12_1 := blk_frozen BK311.out 1
      have hfz12_2 := blk_frozen BK311.out 2
      go_wp2
      go_ret
      exact ⟨by first | rfl | (simp <;> rfl) | (simp [*] <;> rfl), bq1_ HB.out GE311.out⟩
     ·rw [if_neg c11] at H
      have c11b0 : ((l0_2.length : Int) == 0) = false := beq_eq_false_iff_ne.mpr c11
      have c11b1 : ((l0_2.length : Int) != 0) = true := bne_iff_ne.mpr c11
      have c11b2 : ¬ (l0_2 = []) := fun h_ => c11 (by rw [h_]; rfl)
      by_cases c13 : 0 < (l0_2.length : Int)
      ·rw [if_pos c13] at H
       have c13b0 : decide (0 < (l0_2.length : Int)) = true := decide_eq_true c13
       have c13b1 : decide (0 < l0_2.length) = true := decide_eq_true (by omega)
       clear c13
       by_cases c14 : (rd l0_2 0) < 0
       ·rw [if_pos c14] at H
        have c14b0 : decide ((rd l0_2 0) < 0) = true := decide_eq_true c14
        clear c14
        obtain rfl := Option.some.inj H
        have hcz15_0 : wc.cell? ⟨gb311, 0, none⟩ = some (.int .i64 a0_0) := (blk_cell BK311.out 0).trans rfl
        have hcz15_1 : wc.cell? ⟨gb311, 1, none⟩ = some (.slice A0_1 l0_1.length c0_1) := (blk_cell BK311.out 1).trans rfl
        have hcz15_2 : wc.cell? ⟨gb311, 2, none⟩ = some (.slice A0_2 l0_2.length c0_2) := (blk_cell BK311.out 2).trans rfl
        have hfz15_0 := blk_frozen BK311.out 0
        have hfz15_1 := blk_frozen BK311.out 1
        have hfz15_2 := blk_frozen BK311.out 2
        have p313 : 0 ≤ (0 : Int) := (by omega)
        have q313 : 0 < (l0_2.length : Int) := od_
        obtain ⟨ad313, e313, hx313_0⟩ := Kd.at_int HR0_2.out 0 p313 q313
        cases e313
        have qi313 : (0 < l0_2.length) = True := eq_true (by omega)
        (try rw [show ((0 : Int)).toNat = 0 from rfl] at hx313_0)
        (try rw [Addr.add_zero'] at hx313_0)
        replace hx313_0 := (HB.out.cell (World.block_lt_of_cell? w _ hx313_0)).trans hx313_0
        replace p313 := eq_true p313
        replace q313 := eq_true q313
        go_wp2
        go_ret
        exact ⟨by first | rfl | (simp <;> rfl) | (simp [*] <;> rfl), bq1_ HB.out GE311.out⟩
       ·rw [if_neg c14] at H
        have c14b0 : decide ((rd l0_2 0) < 0) = false := decide_eq_false c14
        clear c14
        by_cases c16 : (rd l0_2 0) > 7
        ·rw [if_pos c16] at H
         have c16b0 : decide (7 < (rd l0_2 0)) = true := decide_eq_true c16
         clear c16
         obtain rfl := Option.some.inj H
         have hcz17_0 : wc.cell? ⟨gb311, 0, none⟩ = some (.int .i64 a0_0) := (blk_cell BK311.out 0).trans rfl
         have hcz17_1 : wc.cell? ⟨gb311, 1, none⟩ = some (.slice A0_1 l0_1.length c0_1) := (blk_cell BK311.out 1).trans rfl
         have hcz17_2 : wc.cell? ⟨gb311, 2, none⟩ = some (.slice A0_2 l0_2.length c0_2) := (blk_cell BK311.out 2).trans rfl
         have hfz17_0 := blk_frozen BK311.out 0
         have hfz17_1 := blk_frozen BK311.out 1
         have hfz17_2 := blk_frozen BK311.out 2
         have p313 : 0 ≤ (0 : Int) := (by omega)
         have q313 : 0 < (l0_2.length : Int) := od_
         obtain ⟨ad313, e313, hx313_0⟩ := Kd.at_int HR0_2.out 0 p313 q313
         cases e313
         have qi313 : (0 < l0_2.length) = True := eq_true (by omega)
         (try rw [show ((0 : Int)).toNat = 0 from rfl] at hx313_0)
         (try rw [Addr.add_zero'] at hx313_0)
         replace hx313_0 := (HB.out.cell (World.block_lt_of_cell? w _ hx313_0)).trans hx313_0
         replace p313 := eq_true p313
         replace q313 := eq_true q313
         have p314 : 0 ≤ (0 : Int) := (by omega)
         have q314 : 0 < (l0_2.length : Int) := od_
         obtain ⟨ad314, e314, hx314_0⟩ := Kd.at_int HR0_2.out 0 p314 q314
         obtain rfl : ad313 = ad314 := (by injection e314)
         have qi314 : (0 < l0_2.length) = True := eq_true (by omega)
         (try rw [show ((0 : Int)).toNat = 0 from rfl] at hx314_0)
         (try rw [Addr.add_zero'] at hx314_0)
         replace hx314_0 := (HB.out.cell (World.block_lt_of_cell? w _ hx314_0)).trans hx314_0
         replace p314 := eq_true p314
         replace q314 := eq_true q314
         go_wp2
         go_ret
         exact ⟨by first | rfl | (simp <;> rfl) | (simp [*] <;> rfl), bq1_ HB.out GE311.out⟩
        ·rw [if_neg c16] at H
         have c16b0 : decide (7 < (rd l0_2 0)) = false := decide_eq_false c16
         clear c16
         by_cases c18 : 1 ≤ (l0_2.length : Int)
         ·rw [if_pos c18] at H
          have c18b0 := eq_true c18
          have c18b1 : decide (1 ≤ (l0_2.length : Int)) = true := decide_eq_true c18
          clear c18
          replace H := Option.bind_eq_some_iff.mp H
          obtain ⟨t316, A190, H⟩ := H
          replace H : (some t316) = some r := H
          have A19 := Aside0.mk A190
          clear A190
          obtain rfl := Option.some.inj H
          have hcz20_0 : wc.cell? ⟨gb311, 0, none⟩ = some (.int .i64 a0_0) := (blk_cell BK311.out 0).trans rfl
          have hcz20_1 : wc.cell? ⟨gb311, 1, none⟩ = some (.slice A0_1 l0_1.length c0_1) := (blk_cell BK311.out 1).trans rfl
          have hcz20_2 : wc.cell? ⟨gb311, 2, none⟩ = some (.slice A0_2 l0_2.length c0_2) := (blk_cell BK311.out 2).trans rfl
          have hfz20_0 := blk_frozen BK311.out 0
          have hfz20_1 := blk_frozen BK311.out 1
          have hfz20_2 := blk_frozen BK311.out 2
          have p313 : 0 ≤ (0 : Int) := (by omega)
          have q313 : 0 < (l0_2.length : Int) := od_
          obtain ⟨ad313, e313, hx313_0⟩ := Kd.at_int HR0_2.out 0 p313 q313
          cases e313
          have qi313 : (0 < l0_2.length) = True := eq_true (by omega)
          (try rw [show ((0 : Int)).toNat = 0 from rfl] at hx313_0)
          (try rw [Addr.add_zero'] at hx313_0)
          replace hx313_0 := (HB.out.cell (World.block_lt_of_cell? w _ hx313_0)).trans hx313_0
          replace p313 := eq_true p313
          replace q313 := eq_true q313
          have p314 : 0 ≤ (0 : Int) := (by omega)
          have q314 : 0 < (l0_2.length : Int) := od_
          obtain ⟨ad314, e314, hx314_0⟩ := Kd.at_int HR0_2.out 0 p314 q314
          obtain rfl : ad313 = ad314 := (by injection e314)
          have qi314 : (0 < l0_2.length) = True := eq_true (by omega)
          (try rw [show ((0 : Int)).toNat = 0 from rfl] at hx314_0)
          (try rw [Addr.add_zero'] at hx314_0)
          replace hx314_0 := (HB.out.cell (World.block_lt_of_cell? w _ hx314_0)).trans hx314_0
          replace p314 := eq_true p314
          replace q314 := eq_true q314
          obtain ⟨i021, hi021, _, hsz21, _⟩ := info_parts info3
          obtain ⟨A21, hcut21, hA21, hC21⟩ := print_drop_of (P := Try.prog) (Value.int .i64) 0 25 3 .i64 Try.underlying25 hi021 hsz21 (some ad313) c0_2 l0_2 1 (by omega) od_ HC0_2.out
          have HR315 := Aside0.mk (Kd.C_of_reads (h1 := fun _ => rfl) (hA21 _ (Kd.reads_of_C HR0_2.out)))
          have HC315 := Aside0.mk hC21
          clear hA21 hC21 hi021 hsz21
          go_wp2_with (first | ((with_reducible refine gate_callee (f := 41) rfl ?_); refine goesL_ (some 40) rfl rfl Try.func41 (by kernel_rfl) rfl #[.slice A21 (l0_2.drop 1).length (c0_2 - 1)] rfl (by (try simp only [List.map_toArray, List.map_cons, List.map_nil]); first | done | (rw [show (l0_2.drop 1).length = (l0_2.length - 1) from List.length_drop] <;> rfl) | rfl | (simp only [List.length_drop, List.length_take]; rfl)) ?_; (with_reducible refine (fullerref02_Check.calls kj2 _ _ (l0_2.drop 1) t316 _ ?side1 ?side2 A19.out).mono ?_); (case side1 => exact mvC_ ((Kd.C_below HR315.out HB.out))); (case side2 => exact HC315.out); rintro e w' ⟨rfl, ⟨nd, rfl⟩⟩; refine ⟨_, rfl, ?_⟩))
          go_ret
          exact ⟨by first | rfl | (simp <;> rfl) | (simp [*] <;> rfl), bq1_ HB.out GE311.out⟩
         ·rw [if_neg c18] at H
          exact absurd H (by simp)
      ·rw [if_neg c13] at H
       exact absurd H (by simp)
    ·rw [if_neg c10] at H
     have c10b0 : (a0_0 == 2) = false := beq_eq_false_iff_ne.mpr c10
     have c10b1 : (a0_0 != 2) = true := bne_iff_ne.mpr c10
     by_cases c22 : a0_0 = 42
     ·rw [if_pos c22] at H
      obtain ⟨c22b0, c22b1⟩ := eqT_ c22
      clear c22
      obtain rfl := Option.some.inj H
      have hcz23_0 : wc.cell? ⟨gb311, 0, none⟩ = some (.int .i64 a0_0) := (blk_cell BK311.out 0).trans rfl
      have hcz23_1 : wc.cell? ⟨gb311, 1, none⟩ = some (.slice A0_1 l0_1.length c0_1) := (blk_cell BK311.out 1).trans rfl
      have hcz23_2 : wc.cell? ⟨gb311, 2, none⟩ = some (.slice A0_2 l0_2.length c0_2) := (blk_cell BK311.out 2).trans rfl
      have hfz23_0 := blk_frozen BK311.out 0
      have hfz23_1 := blk_frozen BK311.out 1
      have hfz23_2 := blk_frozen BK311.out 2
      go_wp2
      go_ret
      exact ⟨by first | rfl | (simp <;> rfl) | (simp [*] <;> rfl), bq1_ HB.out GE311.out⟩
     ·rw [if_neg c22] at H
      have c22b0 : (a0_0 == 42) = false := beq_eq_false_iff_ne.mpr c22
      have c22b1 : (a0_0 != 42) = true := bne_iff_ne.mpr c22
      by_cases c24 : a0_0 = 3
      ·rw [if_pos c24] at H
       obtain ⟨c24b0, c24b1⟩ := eqT_ c24
       clear c24
       obtain rfl := Option.some.inj H
       have hcz25_0 : wc.cell? ⟨gb311, 0, none⟩ = some (.int .i64 a0_0) := (blk_cell BK311.out 0).trans rfl
       have hcz25_1 : wc.cell? ⟨gb311, 1, none⟩ = some (.slice A0_1 l0_1.length c0_1) := (blk_cell BK311.out 1).trans rfl
       have hcz25_2 : wc.cell? ⟨gb311, 2, none⟩ = some (.slice A0_2 l0_2.length c0_2) := (blk_cell BK311.out 2).trans rfl
       have hfz25_0 := blk_frozen BK311.out 0
       have hfz25_1 := blk_frozen BK311.out 1
       have hfz25_2 := blk_frozen BK311.out 2
       go_wp2
       go_ret
       exact ⟨by first | rfl | (simp <;> rfl) | (simp [*] <;> rfl), bq1_ HB.out GE311.out⟩
      ·rw [if_neg c24] at H
       have c24b0 : (a0_0 == 3) = false := beq_eq_false_iff_ne.mpr c24
       have c24b1 : (a0_0 != 3) = true := bne_iff_ne.mpr c24
       by_cases c26 : a0_0 = 43
       ·rw [if_pos c26] at H
        obtain ⟨c26b0, c26b1⟩ := eqT_ c26
        clear c26
        obtain rfl := Option.some.inj H
        have hcz27_0 : wc.cell? ⟨gb311, 0, none⟩ = some (.int .i64 a0_0) := (blk_cell BK311.out 0).trans rfl
        have hcz27_1 : wc.cell? ⟨gb311, 1, none⟩ = some (.slice A0_1 l0_1.length c0_1) := (blk_cell BK311.out 1).trans rfl
        have hcz27_2 : wc.cell? ⟨gb311, 2, none⟩ = some (.slice A0_2 l0_2.length c0_2) := (blk_cell BK311.out 2).trans rfl
        have hfz27_0 := blk_frozen BK311.out 0
        have hfz27_1 := blk_frozen BK311.out 1
        have hfz27_2 := blk_frozen BK311.out 2
        go_wp2
        go_ret
        exact ⟨by first | rfl | (simp <;> rfl) | (simp [*] <;> rfl), bq1_ HB.out GE311.out⟩
       ·rw [if_neg c26] at H
        have c26b0 : (a0_0 == 43) = false := beq_eq_false_iff_ne.mpr c26
        have c26b1 : (a0_0 != 43) = true := bne_iff_ne.mpr c26
        by_cases c28 : a0_0 ≥ 50
        ·rw [if_pos c28] at H
         have c28b0 : decide (50 ≤ a0_0) = true := decide_eq_true c28
         clear c28
         obtain rfl := Option.some.inj H
         have hcz29_0 : wc.cell? ⟨gb311, 0, none⟩ = some (.int .i64 a0_0) := (blk_cell BK311.out 0).trans rfl
         have hcz29_1 : wc.cell? ⟨gb311, 1, none⟩ = some (.slice A0_1 l0_1.length c0_1) := (blk_cell BK311.out 1).trans rfl
         have hcz29_2 : wc.cell? ⟨gb311, 2, none⟩ = some (.slice A0_2 l0_2.length c0_2) := (blk_cell BK311.out 2).trans rfl
         have hfz29_0 := blk_frozen BK311.out 0
         have hfz29_1 := blk_frozen BK311.out 1
         have hfz29_2 := blk_frozen BK311.out 2
         go_wp2
         go_ret
         exact ⟨by first | rfl | (simp <;> rfl) | (simp [*] <;> rfl), bq1_ HB.out GE311.out⟩
        ·rw [if_neg c28] at H
         have c28b0 : decide (50 ≤ a0_0) = false := decide_eq_false c28
         clear c28
         obtain rfl := Option.some.inj H
         have hcz30_0 : wc.cell? ⟨gb311, 0, none⟩ = some (.int .i64 a0_0) := (blk_cell BK311.out 0).trans rfl
         have hcz30_1 : wc.cell? ⟨gb311, 1, none⟩ = some (.slice A0_1 l0_1.length c0_1) := (blk_cell BK311.out 1).trans rfl
         have hcz30_2 : wc.cell? ⟨gb311, 2, none⟩ = some (.slice A0_2 l0_2.length c0_2) := (blk_cell BK311.out 2).trans rfl
         have hfz30_0 := blk_frozen BK311.out 0
         have hfz30_1 := blk_frozen BK311.out 1
         have hfz30_2 := blk_frozen BK311.out 2
         go_wp2
         go_ret
         exact ⟨by first | rfl | (simp <;> rfl) | (simp [*] <;> rfl), bq1_ HB.out GE311.out⟩

/-! ### fullerref10_like: function 35 -/
def fullerref10_like.f (k : Nat) (a0_0 : Int) (l0_1 : List Int) (l0_2 : List Int) (a1_0 : Int) (l1_1 : List Int) (l1_2 : List Int) : Option (Bool) := if a0_0 = a1_0 then (if a0_0 > 2 then (some true) else (if a0_0 = 2 then (if 0 < (l0_2.length : Int) then (if 0 < (l1_2.length : Int) then (if (rd l0_2 0) = (rd l1_2 0) then ((fullerref02_Same.f k l0_2 l1_2).bind fun t321 => (some t321)) else (some true)) else (none)) else (none)) else ((fullerref02_Same.f k l0_2 l1_2).bind fun t322 => (some t322)))) else (some true)
theorem fullerref10_like.mono : ∀ a0 a1 a2 a3 a4 a5 k, LeO (fullerref10_like.f k a0 a1 a2 a3 a4 a5) (fullerref10_like.f (k + 1) a0 a1 a2 a3 a4 a5) := by
 intro a0 a1 a2 a3 a4 a5 k
 unfold fullerref10_like.f
 repeat' first
   | (with_reducible exact fullerref02_Same.mono _ _ _)
   | (with_reducible exact LeO.refl _)
   | (with_reducible exact LeO.none _)
   | (with_reducible refine LeO.ite ?_ ?_)
   | (with_reducible refine LeO.bind ?_ (fun _ => ?_))
   | exact fullerref02_Same.mono _ _ _
   | exact LeO.none _
   | refine LeO.ite ?_ ?_
   | refine LeO.bind ?_ (fun _ => ?_)
set_option maxHeartbeats 8000000 in
set_option maxRecDepth 100000 in
theorem fullerref10_like.calls (k : Nat) (a0_0 : Int) (A0_1 : Option Addr) (c0_1 : Nat) (l0_1 : List Int) (A0_2 : Option Addr) (c0_2 : Nat) (l0_2 : List Int) (a1_0 : Int) (A1_1 : Option Addr) (c1_1 : Nat) (l1_1 : List Int) (A1_2 : Option Addr) (c1_2 : Nat) (l1_2 : List Int) (r : Bool) (w : World) (hr0_1 : Kd.C (Kd.int .i64) w A0_1 l0_1.length l0_1) (hc0_1 : l0_1.length ≤ c0_1) (hr0_2 : Kd.C (Kd.int .i64) w A0_2 l0_2.length l0_2) (hc0_2 : l0_2.length ≤ c0_2) (hr1_1 : Kd.C (Kd.int .i64) w A1_1 l1_1.length l1_1) (hc1_1 : l1_1.length ≤ c1_1) (hr1_2 : Kd.C (Kd.int .i64) w A1_2 l1_2.length l1_2) (hc1_2 : l1_2.length ≤ c1_2) (h : fullerref10_like.f k a0_0 l0_1 l0_2 a1_0 l1_1 l1_2 = some r) :
  Calls Try.prog 35 #[.agg #[.int .i64 a0_0, .slice A0_1 l0_1.length c0_1, .slice A0_2 l0_2.length c0_2], .agg #[.int .i64 a1_0, .slice A1_1 l1_1.length c1_1, .slice A1_2 l1_2.length c1_2]] w fun e w' => e = .returned (.bool r) ∧ Below w.heap.size w w' := by
 have hu35 := Try.underlying35
 have HR0_1 := Aside0.mk hr0_1
 have HC0_1 := Aside0.mk hc0_1
 clear hr0_1 hc0_1
 have HR0_2 := Aside0.mk hr0_2
 have HC0_2 := Aside0.mk hc0_2
 clear hr0_2 hc0_2
 have HR1_1 := Aside0.mk hr1_1
 have HC1_1 := Aside0.mk hc1_1
 clear hr1_1 hc1_1
 have HR1_2 := Aside0.mk hr1_2
 have HC1_2 := Aside0.mk hc1_2
 clear hr1_2 hc1_2
 have HB := Aside0.mk (Below.refl w.heap.size w)
 have H : (if a0_0 = a1_0 then (if a0_0 > 2 then (some true) else (if a0_0 = 2 then (if 0 < (l0_2.length : Int) then (if 0 < (l1_2.length : Int) then (if (rd l0_2 0) = (rd l1_2 0) then ((fullerref02_Same.f k l0_2 l1_2).bind fun t321 => (some t321)) else (some true)) else (none)) else (none)) else ((fullerref02_Same.f k l0_2 l1_2).bind fun t322 => (some t322)))) else (some true)) = some r := h
 clear h
 by_cases c3 : a0_0 = a1_0
 ·rw [if_pos c3] at H
  obtain ⟨c3b0, c3b1⟩ := eqT_ c3
  clear c3
  by_cases c4 : a0_0 > 2
  ·rw [if_pos c4] at H
   have c4b0 : decide (2 < a0_0) = true := decide_eq_true c4
   clear c4
   obtain rfl := Option.some.inj H
   go_enter Try.func35, Try.ntmps35
   go_wp2_with (first | ((with_reducible refine gate_dst (N := 2) rfl ?_); refine box_event ?hg (N := 2) ?hd (cs := #[.int .i64 a0_0, .slice A0_1 l0_1.length c0_1, .slice A0_2 l0_2.length c0_2]) (t := 35) ?hr ?_; (case hd => rfl); (case hg => rfl); (case hr => first | (go_simp; done) | (go_simp; rfl)); intro gb317 hg w5 hbox hb; have BK317 := Aside0.mk (hbox); have GW317 := Aside0.mk ((by rw [hg]; exact (below_size (bq0_ HB.out)) : w.heap.size ≤ gb317)); have GE317 := Aside0.mk ((by rw [hg]; exact (below_size (bq0_ HB.out)) : w.heap.size ≤ gb317)); replace HB := Aside0.mk (below_step (bq0_ HB.out) hb); clear hb hbox hg) | ((with_reducible refine gate_dst (N := 3) rfl ?_); refine box_event ?hg (N := 3) ?hd (cs := #[.int .i64 a1_0, .slice A1_1 l1_1.length c1_1, .slice A1_2 l1_2.length c1_2]) (t := 35) ?hr ?_; (case hd => rfl); (case hg => rfl); (case hr => first | (go_simp; done) | (go_simp; rfl)); intro gb318 hg w6 hbox hb; have BK318 := Aside0.mk (hbox); have GW318 := Aside0.mk ((by rw [hg]; exact (below_size (bq1_ HB.out GE317.out)) : w.heap.size ≤ gb318)); have GE318 := Aside0.mk ((by rw [hg]; exact (below_size (bq1_ HB.out GE317.out)) : w.heap.size ≤ gb318)); have NB317_318 := Aside0.mk ((by rw [hg]; exact Nat.ne_of_lt (blk_lt (g := gb317) (o := .cells #[.int .i64 a0_0, .slice A0_1 l0_1.length c0_1, .slice A0_2 l0_2.length c0_2] 35 (0, 0)) (mvK_ BK317.out)) : gb317 ≠ gb318)); have NB318_317 := Aside0.mk ((by rw [hg]; exact Nat.ne_of_gt (blk_lt (g := gb317) (o := .cells #[.int .i64 a0_0, .slice A0_1 l0_1.length c0_1, .slice A0_2 l0_2.length c0_2] 35 (0, 0)) (mvK_ BK317.out)) : gb318 ≠ gb317)); replace BK317 := Aside0.mk (blk_below (g := gb317) (o := .cells #[.int .i64 a0_0, .slice A0_1 l0_1.length c0_1, .slice A0_2 l0_2.length c0_2] 35 (0, 0)) (mvK_ BK317.out) hb); replace HB := Aside0.mk (below_step (bq1_ HB.out GE317.out) hb); clear hb hbox hg; have hnb7 := NB317_318.out; have hnc7 := NB318_317.out; have hcz8_0 : w6.cell? ⟨gb317, 0, none⟩ = some (.int .i64 a0_0) := (blk_cell BK317.out 0).trans rfl; have hcz8_1 : w6.cell? ⟨gb317, 1, none⟩ = some (.slice A0_1 l0_1.length c0_1) := (blk_cell BK317.out 1).trans rfl; have hcz8_2 : w6.cell? ⟨gb317, 2, none⟩ = some (.slice A0_2 l0_2.length c0_2) := (blk_cell BK317.out 2).trans rfl; have hfz8_0 := blk_frozen BK317.out 0; have hfz8_1 := blk_frozen BK317.out 1; have hfz8_2 := blk_frozen BK317.out 2; have hcz9_0 : w6.cell? ⟨gb318, 0, none⟩ = some (.int .i64 a1_0) := (blk_cell BK318.out 0).trans rfl; have hcz9_1 : w6.cell? ⟨gb318, 1, none⟩ = some (.slice A1_1 l1_1.length c1_1) := (blk_cell BK318.out 1).trans rfl; have hcz9_2 : w6.cell? ⟨gb318, 2, none⟩ = some (.slice A1_2 l1_2.length c1_2) := (blk_cell BK318.out 2).trans rfl; have hfz9_0 := blk_frozen BK318.out 0; have hfz9_1 := blk_frozen BK318.out 1; have hfz9_2 := blk_frozen BK318.out 2))
   repeat (go_quiet (first | ((with_reducible refine gate_dst (N := 2) rfl ?_); refine box_event ?hg (N := 2) ?hd (cs := #[.int .i64 a0_0, .slice A0_1 l0_1.length c0_1, .slice A0_2 l0_2.length c0_2]) (t := 35) ?hr ?_; (case hd => rfl); (case hg => rfl); (case hr => first | (go_simp; done) | (go_simp; rfl)); intro gb317 hg w5 hbox hb; have BK317 := Aside0.mk (hbox); have GW317 := Aside0.mk ((by rw [hg]; exact (below_size (bq0_ HB.out)) : w.heap.size ≤ gb317)); have GE317 := Aside0.mk ((by rw [hg]; exact (below_size (bq0_ HB.out)) : w.heap.size ≤ gb317)); replace HB := Aside0.mk (below_step (bq0_ HB.out) hb); clear hb hbox hg) | ((with_reducible refine gate_dst (N := 3) rfl ?_); refine box_event ?hg (N := 3) ?hd (cs := #[.int .i64 a1_0, .slice A1_1 l1_1.length c1_1, .slice A1_2 l1_2.length c1_2]) (t := 35) ?hr ?_; (case hd => rfl); (case hg => rfl); (case hr => first | (go_simp; done) | (go_simp; rfl)); intro gb318 hg w6 hbox hb; have BK318 := Aside0.mk (hbox); have GW318 := Aside0.mk ((by rw [hg]; exact (below_size (bq1_ HB.out GE317.out)) : w.heap.size ≤ gb318)); have GE318 := Aside0.mk ((by rw [hg]; exact (below_size (bq1_ HB.out GE317.out)) : w.heap.size ≤ gb318)); have NB317_318 := Aside0.mk ((by rw [hg]; exact Nat.ne_of_lt (blk_lt (g := gb317) (o := .cells #[.int .i64 a0_0, .slice A0_1 l0_1.length c0_1, .slice A0_2 l0_2.length c0_2] 35 (0, 0)) (mvK_ BK317.out)) : gb317 ≠ gb318)); have NB318_317 := Aside0.mk ((by rw [hg]; exact Nat.ne_of_gt (blk_lt (g := gb317) (o := .cells #[.int .i64 a0_0, .slice A0_1 l0_1.length c0_1, .slice A0_2 l0_2.length c0_2] 35 (0, 0)) (mvK_ BK317.out)) : gb318 ≠ gb317)); replace BK317 := Aside0.mk (blk_below (g := gb317) (o := .cells #[.int .i64 a0_0, .slice A0_1 l0_1.length c0_1, .slice A0_2 l0_2.length c0_2] 35 (0, 0)) (mvK_ BK317.out) hb); replace HB := Aside0.mk (below_step (bq1_ HB.out GE317.out) hb); clear hb hbox hg; have hnb7 := NB317_318.out; have hnc7 := NB318_317.out; have hcz8_0 : w6.cell? ⟨gb317, 0, none⟩ = some (.int .i64 a0_0) := (blk_cell BK317.out 0).trans rfl; have hcz8_1 : w6.cell? ⟨gb317, 1, none⟩ = some (.slice A0_1 l0_1.length c0_1) := (blk_cell BK317.out 1).trans rfl; have hcz8_2 : w6.cell? ⟨gb317, 2, none⟩ = some (.slice A0_2 l0_2.length c0_2) := (blk_cell BK317.out 2).trans rfl; have hfz8_0 := blk_frozen BK317.out 0; have hfz8_1 := blk_frozen BK317.out 1; have hfz8_2 := blk_frozen BK317.out 2; have hcz9_0 : w6.cell? ⟨gb318, 0, none⟩ = some (.int .i64 a1_0) := (blk_cell BK318.out 0).trans rfl; have hcz9_1 : w6.cell? ⟨gb318, 1, none⟩ = some (.slice A1_1 l1_1.length c1_1) := (blk_cell BK318.out 1).trans rfl; have hcz9_2 : w6.cell? ⟨gb318, 2, none⟩ = some (.slice A1_2 l1_2.length c1_2) := (blk_cell BK318.out 2).trans rfl; have hfz9_0 := blk_frozen BK318.out 0; have hfz9_1 := blk_frozen BK318.out 1; have hfz9_2 := blk_frozen BK318.out 2)); try go_wp2_with (first | ((with_reducible refine gate_dst (N := 2) rfl ?_); refine box_event ?hg (N := 2) ?hd (cs := #[.int .i64 a0_0, .slice A0_1 l0_1.length c0_1, .slice A0_2 l0_2.length c0_2]) (t := 35) ?hr ?_; (case hd => rfl); (case hg => rfl); (case hr => first | (go_simp; done) | (go_simp; rfl)); intro gb317 hg w5 hbox hb; have BK317 := Aside0.mk (hbox); have GW317 := Aside0.mk ((by rw [hg]; exact (below_size (bq0_ HB.out)) : w.heap.size ≤ gb317)); have GE317 := Aside0.mk ((by rw [hg]; exact (below_size (bq0_ HB.out)) : w.heap.size ≤ gb317)); replace HB := Aside0.mk (below_step (bq0_ HB.out) hb); clear hb hbox hg) | ((with_reducible refine gate_dst (N := 3) rfl ?_); refine box_event ?hg (N := 3) ?hd (cs := #[.int .i64 a1_0, .slice A1_1 l1_1.length c1_1, .slice A1_2 l1_2.length c1_2]) (t := 35) ?hr ?_; (case hd => rfl); (case hg => rfl); (case hr => first | (go_simp; done) | (go_simp; rfl)); intro gb318 hg w6 hbox hb; have BK318 := Aside0.mk (hbox); have GW318 := Aside0.mk ((by rw [hg]; exact (below_size (bq1_ HB.out GE317.out)) : w.heap.size ≤ gb318)); have GE318 := Aside0.mk ((by rw [hg]; exact (below_size (bq1_ HB.out GE317.out)) : w.heap.size ≤ gb318)); have NB317_318 := Aside0.mk ((by rw [hg]; exact Nat.ne_of_lt (blk_lt (g := gb317) (o := .cells #[.int .i64 a0_0, .slice A0_1 l0_1.length c0_1, .slice A0_2 l0_2.length c0_2] 35 (0, 0)) (mvK_ BK317.out)) : gb317 ≠ gb318)); have NB318_317 := Aside0.mk ((by rw [hg]; exact Nat.ne_of_gt (blk_lt (g := gb317) (o := .cells #[.int .i64 a0_0, .slice A0_1 l0_1.length c0_1, .slice A0_2 l0_2.length c0_2] 35 (0, 0)) (mvK_ BK317.out)) : gb318 ≠ gb317)); replace BK317 := Aside0.mk (blk_below (g := gb317) (o := .cells #[.int .i64 a0_0, .slice A0_1 l0_1.length c0_1, .slice A0_2 l0_2.length c0_2] 35 (0, 0)) (mvK_ BK317.out) hb); replace HB := Aside0.mk (below_step (bq1_ HB.out GE317.out) hb); clear hb hbox hg; have hnb7 := NB317_318.out; have hnc7 := NB318_317.out; have hcz8_0 : w6.cell? ⟨gb317, 0, none⟩ = some (.int .i64 a0_0) := (blk_cell BK317.out 0).trans rfl; have hcz8_1 : w6.cell? ⟨gb317, 1, none⟩ = some (.slice A0_1 l0_1.length c0_1) := (blk_cell BK317.out 1).trans rfl; have hcz8_2 : w6.cell? ⟨gb317, 2, none⟩ = some (.slice A0_2 l0_2.length c0_2) := (blk_cell BK317.out 2).trans rfl; have hfz8_0 := blk_frozen BK317.out 0; have hfz8_1 := blk_frozen BK317.out 1; have hfz8_2 := blk_frozen BK317.out 2; have hcz9_0 : w6.cell? ⟨gb318, 0, none⟩ = some (.int .i64 a1_0) := (blk_cell BK318.out 0).trans rfl; have hcz9_1 : w6.cell? ⟨gb318, 1, none⟩ = some (.slice A1_1 l1_1.length c1_1) := (blk_cell BK318.out 1).trans rfl; have hcz9_2 : w6.cell? ⟨gb318, 2, none⟩ = some (.slice A1_2 l1_2.length c1_2) := (blk_cell BK318.out 2).trans rfl; have hfz9_0 := blk_frozen BK318.out 0; have hfz9_1 := blk_frozen BK318.out 1; have hfz9_2 := blk_frozen BK318.out 2)))
   go_ret
   exact ⟨by first | rfl | (simp <;> rfl) | (simp [*] <;> rfl), bq2_ HB.out GE317.out GE318.out⟩
  ·rw [if_neg c4] at H
   have c4b0 : decide (2 < a0_0) = false := decide_eq_false c4
   clear c4
   by_cases c10 : a0_0 = 2
   ·rw [if_pos c10] at H
    obtain ⟨c10b0, c10b1⟩ := eqT_ c10
    clear c10
    by_cases c11 : 0 < (l0_2.length : Int)
    ·rw [if_pos c11] at H
     have c11b0 : decide (0 < (l0_2.length : Int)) = true := decide_eq_true c11
     have c11b1 : decide (0 < l0_2.length) = true := decide_eq_true (by omega)
     clear c11
     by_cases c12 : 0 < (l1_2.length : Int)
     ·rw [if_pos c12] at H
      have c12b0 : decide (0 < (l1_2.length : Int)) = true := decide_eq_true c12
      have c12b1 : decide (0 < l1_2.length) = true := decide_eq_true (by omega)
      clear c12
      by_cases c13 : (rd l0_2 0) = (rd l1_2 0)
      ·rw [if_pos c13] at H
       obtain ⟨c13b0, c13b1⟩ := eqT_ c13
       clear c13
       replace H := Option.bind_eq_some_iff.mp H
       obtain ⟨t321, A140, H⟩ := H
       replace H : (some t321) = some r := H
       have A14 := Aside0.mk A140
       clear A140
       obtain rfl := Option.some.inj H
       go_enter Try.func35, Try.ntmps35
       go_wp2_with (first | ((with_reducible refine gate_dst (N := 2) rfl ?_); refine box_event ?hg (N := 2) ?hd (cs := #[.int .i64 a0_0, .slice A0_1 l0_1.length c0_1, .slice A0_2 l0_2.length c0_2]) (t := 35) ?hr ?_; (case hd => rfl); (case hg => rfl); (case hr => first | (go_simp; done) | (go_simp; rfl)); intro gb317 hg w15 hbox hb; have BK317 := Aside0.mk (hbox); have GW317 := Aside0.mk ((by rw [hg]; exact (below_size (bq0_ HB.out)) : w.heap.size ≤ gb317)); have GE317 := Aside0.mk ((by rw [hg]; exact (below_size (bq0_ HB.out)) : w.heap.size ≤ gb317)); replace HB := Aside0.mk (below_step (bq0_ HB.out) hb); clear hb hbox hg) | ((with_reducible refine gate_dst (N := 3) rfl ?_); refine box_event ?hg (N := 3) ?hd (cs := #[.int .i64 a1_0, .slice A1_1 l1_1.length c1_1, .slice A1_2 l1_2.length c1_2]) (t := 35) ?hr ?_; (case hd => rfl); (case hg => rfl); (case hr => first | (go_simp; done) | (go_simp; rfl)); intro gb318 hg w16 hbox hb; have BK318 := Aside0.mk (hbox); have GW318 := Aside0.mk ((by rw [hg]; exact (below_size (bq1_ HB.out GE317.out)) : w.heap.size ≤ gb318)); have GE318 := Aside0.mk ((by rw [hg]; exact (below_size (bq1_ HB.out GE317.out)) : w.heap.size ≤ gb318)); have NB317_318 := Aside0.mk ((by rw [hg]; exact Nat.ne_of_lt (blk_lt (g := gb317) (o := .cells #[.int .i64 a0_0, .slice A0_1 l0_1.length c0_1, .slice A0_2 l0_2.length c0_2] 35 (0, 0)) (mvK_ BK317.out)) : gb317 ≠ gb318)); have NB318_317 := Aside0.mk ((by rw [hg]; exact Nat.ne_of_gt (blk_lt (g := gb317) (o := .cells #[.int .i64 a0_0, .slice A0_1 l0_1.length c0_1, .slice A0_2 l0_2.length c0_2] 35 (0, 0)) (mvK_ BK317.out)) : gb318 ≠ gb317)); replace BK317 := Aside0.mk (blk_below (g := gb317) (o := .cells #[.int .i64 a0_0, .slice A0_1 l0_1.length c0_1, .slice A0_2 l0_2.length c0_2] 35 (0, 0)) (mvK_ BK317.out) hb); replace HB := Aside0.mk (below_step (bq1_ HB.out GE317.out) hb); clear hb hbox hg; have hnb17 := NB317_318.out; have hnc17 := NB318_317.out; have hcz18_0 : w16.cell? ⟨gb317, 0, none⟩ = some (.int .i64 a0_0) := (blk_cell BK317.out 0).trans rfl; have hcz18_1 : w16.cell? ⟨gb317, 1, none⟩ = some (.slice A0_1 l0_1.length c0_1) := (blk_cell BK317.out 1).trans rfl; have hcz18_2 : w16.cell? ⟨gb317, 2, none⟩ = some (.slice A0_2 l0_2.length c0_2) := (blk_cell BK317.out 2).trans rfl; have hfz18_0 := blk_frozen BK317.out 0; have hfz18_1 := blk_frozen BK317.out 1; have hfz18_2 := blk_frozen BK317.out 2; have hcz19_0 : w16.cell? ⟨gb318, 0, none⟩ = some (.int .i64 a1_0) := (blk_cell BK318.out 0).trans rfl; have hcz19_1 : w16.cell? ⟨gb318, 1, none⟩ = some (.slice A1_1 l1_1.length c1_1) := (blk_cell BK318.out 1).trans rfl; have hcz19_2 : w16.cell? ⟨gb318, 2, none⟩ = some (.slice A1_2 l1_2.length c1_2) := (blk_cell BK318.out 2).trans rfl; have hfz19_0 := blk_frozen BK318.out 0; have hfz19_1 := blk_frozen BK318.out 1; have hfz19_2 := blk_frozen BK318.out 2; have p319 : 0 ≤ (0 : Int) := (by omega); have q319 : 0 < (l0_2.length : Int) := od_; obtain ⟨ad319, e319, hx319_0⟩ := Kd.at_int HR0_2.out 0 p319 q319; cases e319; have qi319 : (0 < l0_2.length) = True := eq_true (by omega); (try rw [show ((0 : Int)).toNat = 0 from rfl] at hx319_0); (try rw [Addr.add_zero'] at hx319_0); replace hx319_0 := (HB.out.cell (World.block_lt_of_cell? w _ hx319_0)).trans hx319_0; replace p319 := eq_true p319; replace q319 := eq_true q319; have p320 : 0 ≤ (0 : Int) := (by omega); have q320 : 0 < (l1_2.length : Int) := od_; obtain ⟨ad320, e320, hx320_0⟩ := Kd.at_int HR1_2.out 0 p320 q320; cases e320; have qi320 : (0 < l1_2.length) = True := eq_true (by omega); (try rw [show ((0 : Int)).toNat = 0 from rfl] at hx320_0); (try rw [Addr.add_zero'] at hx320_0); replace hx320_0 := (HB.out.cell (World.block_lt_of_cell? w _ hx320_0)).trans hx320_0; replace p320 := eq_true p320; replace q320 := eq_true q320) | (go_at_call 17; (with_reducible refine (fullerref02_Same.calls k _ _ l0_2 _ _ l1_2 t321 _ ?side1 ?side2 ?side3 ?side4 A14.out).mono ?_); (case side1 => exact mvC_ ((Kd.C_below HR0_2.out HB.out))); (case side2 => exact HC0_2.out); (case side3 => exact mvC_ ((Kd.C_below HR1_2.out HB.out))); (case side4 => exact HC1_2.out); rintro e w' ⟨rfl, ⟨nd, rfl⟩⟩; (try first | exact ⟨rfl, _, World.drewN_drewN _ _ _⟩ | exact ⟨rfl, _, Eq.trans (World.drewN_drewN _ _ _) (congrArg (World.drewN _) (Nat.add_assoc _ _ _))⟩)))
       repeat (go_quiet (first | ((with_reducible refine gate_dst (N := 2) rfl ?_); refine box_event ?hg (N := 2) ?hd (cs := #[.int .i64 a0_0, .slice A0_1 l0_1.length c0_1, .slice A0_2 l0_2.length c0_2]) (t := 35) ?hr ?_; (case hd => rfl); (case hg => rfl); (case hr => first | (go_simp; done) | (go_simp; rfl)); intro gb317 hg w15 hbox hb; have BK317 := Aside0.mk (hbox); have GW317 := Aside0.mk ((by rw [hg]; exact (below_size (bq0_ HB.out)) : w.heap.size ≤ gb317)); have GE317 := Aside0.mk ((by rw [hg]; exact (below_size (bq0_ HB.out)) : w.heap.size ≤ gb317)); replace HB := Aside0.mk (below_step (bq0_ HB.out) hb); clear hb hbox hg) | ((with_reducible refine gate_dst (N := 3) rfl ?_); refine box_event ?hg (N := 3) ?hd (cs := #[.int .i64 a1_0, .slice A1_1 l1_1.length c1_1, .slice A1_2 l1_2.length c1_2]) (t := 35) ?hr ?_; (case hd => rfl); (case hg => rfl); (case hr => first | (go_simp; done) | (go_simp; rfl)); intro gb318 hg w16 hbox hb; have BK318 := Aside0.mk (hbox); have GW318 := Aside0.mk ((by rw [hg]; exact (below_size (bq1_ HB.out GE317.out)) : w.heap.size ≤ gb318)); have GE318 := Aside0.mk ((by rw [hg]; exact (below_size (bq1_ HB.out GE317.out)) : w.heap.size ≤ gb318)); have NB317_318 := Aside0.mk ((by rw [hg]; exact Nat.ne_of_lt (blk_lt (g := gb317) (o := .cells #[.int .i64 a0_0, .slice A0_1 l0_1.length c0_1, .slice A0_2 l0_2.length c0_2] 35 (0, 0)) (mvK_ BK317.out)) : gb317 ≠ gb318)); have NB318_317 := Aside0.mk ((by rw [hg]; exact Nat.ne_of_gt (blk_lt (g := gb317) (o := .cells #[.int .i64 a0_0, .slice A0_1 l0_1.length c0_1, .slice A0_2 l0_2.length c0_2] 35 (0, 0)) (mvK_ BK317.out)) : gb318 ≠ gb317)); replace BK317 := Aside0.mk (blk_below (g := gb317) (o := .cells #[.int .i64 a0_0, .slice A0_1 l0_1.length c0_1, .slice A0_2 l0_2.length c0_2] 35 (0, 0)) (mvK_ BK317.out) hb); replace HB := Aside0.mk (below_step (bq1_ HB.out GE317.out) hb); clear hb hbox hg; have hnb17 := NB317_318.out; have hnc17 := NB318_317.out; have hcz18_0 : w16.cell? ⟨gb317, 0, none⟩ = some (.int .i64 a0_0) := (blk_cell BK317.out 0).trans rfl; have hcz18_1 : w16.cell? ⟨gb317, 1, none⟩ = some (.slice A0_1 l0_1.length c0_1) := (blk_cell BK317.out 1).trans rfl; have hcz18_2 : w16.cell? ⟨gb317, 2, none⟩ = some (.slice A0_2 l0_2.length c0_2) := (blk_cell BK317.out 2).trans rfl; have hfz18_0 := blk_frozen BK317.out 0; have hfz18_1 := blk_frozen BK317.out 1; have hfz18_2 := blk_frozen BK317.out 2; have hcz19_0 : w16.cell? ⟨gb318, 0, none⟩ = some (.int .i64 a1_0) := (blk_cell BK318.out 0).trans rfl; have hcz19_1 : w16.cell? ⟨gb318, 1, none⟩ = some (.slice A1_1 l1_1.length c1_1) := (blk_cell BK318.out 1).trans rfl; have hcz19_2 : w16.cell? ⟨gb318, 2, none⟩ = some (.slice A1_2 l1_2.length c1_2) := (blk_cell BK318.out 2).trans rfl; have hfz19_0 := blk_frozen BK318.out 0; have hfz19_1 := blk_frozen BK318.out 1; have hfz19_2 := blk_frozen BK318.out 2; have p319 : 0 ≤ (0 : Int) := (by omega); have q319 : 0 < (l0_2.length : Int) := od_; obtain ⟨ad319, e319, hx319_0⟩ := Kd.at_int HR0_2.out 0 p319 q319; cases e319; have qi319 : (0 < l0_2.length) = True := eq_true (by omega); (try rw [show ((0 : Int)).toNat = 0 from rfl] at hx319_0); (try rw [Addr.add_zero'] at hx319_0); replace hx319_0 := (HB.out.cell (World.block_lt_of_cell? w _ hx319_0)).trans hx319_0; replace p319 := eq_true p319; replace q319 := eq_true q319; have p320 : 0 ≤ (0 : Int) := (by omega); have q320 : 0 < (l1_2.length : Int) := od_; obtain ⟨ad320, e320, hx320_0⟩ := Kd.at_int HR1_2.out 0 p320 q320; cases e320; have qi320 : (0 < l1_2.length) = True := eq_true (by omega); (try rw [show ((0 : Int)).toNat = 0 from rfl] at hx320_0); (try rw [Addr.add_zero'] at hx320_0); replace hx320_0 := (HB.out.cell (World.block_lt_of_cell? w _ hx320_0)).trans hx320_0; replace p320 := eq_true p320; replace q320 := eq_true q320) | (go_at_call 17; (with_reducible refine (fullerref02_Same.calls k _ _ l0_2 _ _ l1_2 t321 _ ?side1 ?side2 ?side3 ?side4 A14.out).mono ?_); (case side1 => exact mvC_ ((Kd.C_below HR0_2.out HB.out))); (case side2 => exact HC0_2.out); (case side3 => exact mvC_ ((Kd.C_below HR1_2.out HB.out))); (case side4 => exact HC1_2.out); rintro e w' ⟨rfl, ⟨nd, rfl⟩⟩; (try first | exact ⟨rfl, _, World.drewN_drewN _ _ _⟩ | exact ⟨rfl, _, Eq.trans (World.drewN_drewN _ _ _) (congrArg (World.drewN _) (Nat.add_assoc _ _ _))⟩))); try go_wp2_with (first | ((with_reducible refine gate_dst (N := 2) rfl ?_); refine box_event ?hg (N := 2) ?hd (cs := #[.int .i64 a0_0, .slice A0_1 l0_1.length c0_1, .slice A0_2 l0_2.length c0_2]) (t := 35) ?hr ?_; (case hd => rfl); (case hg => rfl); (case hr => first | (go_simp; done) | (go_simp; rfl)); intro gb317 hg w15 hbox hb; have BK317 := Aside0.mk (hbox); have GW317 := Aside0.mk ((by rw [hg]; exact (below_size (bq0_ HB.out)) : w.heap.size ≤ gb317)); have GE317 := Aside0.mk ((by rw [hg]; exact (below_size (bq0_ HB.out)) : w.heap.size ≤ gb317)); replace HB := Aside0.mk (below_step (bq0_ HB.out) hb); clear hb hbox hg) | ((with_reducible refine gate_dst (N := 3) rfl ?_); refine box_event ?hg (N := 3) ?hd (cs := #[.int .i64 a1_0, .slice A1_1 l1_1.length c1_1, .slice A1_2 l1_2.length c1_2]) (t := 35) ?hr ?_; (case hd => rfl); (case hg => rfl); (case hr => first | (go_simp; done) | (go_simp; rfl)); intro gb318 hg w16 hbox hb; have BK318 := Aside0.mk (hbox); have GW318 := Aside0.mk ((by rw [hg]; exact (below_size (bq1_ HB.out GE317.out)) : w.heap.size ≤ gb318)); have GE318 := Aside0.mk ((by rw [hg]; exact (below_size (bq1_ HB.out GE317.out)) : w.heap.size ≤ gb318)); have NB317_318 := Aside0.mk ((by rw [hg]; exact Nat.ne_of_lt (blk_lt (g := gb317) (o := .cells #[.int .i64 a0_0, .slice A0_1 l0_1.length c0_1, .slice A0_2 l0_2.length c0_2] 35 (0, 0)) (mvK_ BK317.out)) : gb317 ≠ gb318)); have NB318_317 := Aside0.mk ((by rw [hg]; exact Nat.ne_of_gt (blk_lt (g := gb317) (o := .cells #[.int .i64 a0_0, .slice A0_1 l0_1.length c0_1, .slice A0_2 l0_2.length c0_2] 35 (0, 0)) (mvK_ BK317.out)) : gb318 ≠ gb317)); replace BK317 := Aside0.mk (blk_below (g := gb317) (o := .cells #[.int .i64 a0_0, .slice A0_1 l0_1.length c0_1, .slice A0_2 l0_2.length c0_2] 35 (0, 0)) (mvK_ BK317.out) hb); replace HB := Aside0.mk (below_step (bq1_ HB.out GE317.out) hb); clear hb hbox hg; have hnb17 := NB317_318.out; have hnc17 := NB318_317.out; have hcz18_0 : w16.cell? ⟨gb317, 0, none⟩ = some (.int .i64 a0_0) := (blk_cell BK317.out 0).trans rfl; have hcz18_1 : w16.cell? ⟨gb317, 1, none⟩ = some (.slice A0_1 l0_1.length c0_1) := (blk_cell BK317.out 1).trans rfl; have hcz18_2 : w16.cell? ⟨gb317, 2, none⟩ = some (.slice A0_2 l0_2.length c0_2) := (blk_cell BK317.out 2).trans rfl; have hfz18_0 := blk_frozen BK317.out 0; have hfz18_1 := blk_frozen BK317.out 1; have hfz18_2 := blk_frozen BK317.out 2; have hcz19_0 : w16.cell? ⟨gb318, 0, none⟩ = some (.int .i64 a1_0) := (blk_cell BK318.out 0).trans rfl; have hcz19_1 : w16.cell? ⟨gb318, 1, none⟩ = some (.slice A1_1 l1_1.length c1_1) := (blk_cell BK318.out 1).trans rfl; have hcz19_2 : w16.cell? ⟨gb318, 2, none⟩ = some (.slice A1_2 l1_2.length c1_2) := (blk_cell BK318.out 2).trans rfl; have hfz19_0 := blk_frozen BK318.out 0; have hfz19_1 := blk_frozen BK318.out 1; have hfz19_2 := blk_frozen BK318.out 2; have p319 : 0 ≤ (0 : Int) := (by omega); have q319 : 0 < (l0_2.length : Int) := od_; obtain ⟨ad319, e319, hx319_0⟩ := Kd.at_int HR0_2.out 0 p319 q319; cases e319; have qi319 : (0 < l0_2.length) = True := eq_true (by omega); (try rw [show ((0 : Int)).toNat = 0 from rfl] at hx319_0); (try rw [Addr.add_zero'] at hx319_0); replace hx319_0 := (HB.out.cell (World.block_lt_of_cell? w _ hx319_0)).trans hx319_0; replace p319 := eq_true p319; replace q319 := eq_true q319; have p320 : 0 ≤ (0 : Int) := (by omega); have q320 : 0 < (l1_2.length : Int) := od_; obtain ⟨ad320, e320, hx320_0⟩ := Kd.at_int HR1_2.out 0 p320 q320; cases e320; have qi320 : (0 < l1_2.length) = True := eq_true (by omega); (try rw [show ((0 : Int)).toNat = 0 from rfl] at hx320_0); (try rw [Addr.add_zero'] at hx320_0); replace hx320_0 := (HB.out.cell (World.block_lt_of_cell? w _ hx320_0)).trans hx320_0; replace p320 := eq_true p320; replace q320 := eq_true q320) | (go_at_call 17; (with_reducible refine (fullerref02_Same.calls k _ _ l0_2 _ _ l1_2 t321 _ ?side1 ?side2 ?side3 ?side4 A14.out).mono ?_); (case side1 => exact mvC_ ((Kd.C_below HR0_2.out HB.out))); (case side2 => exact HC0_2.out); (case side3 => exact mvC_ ((Kd.C_below HR1_2.out HB.out))); (case side4 => exact HC1_2.out); rintro e w' ⟨rfl, ⟨nd, rfl⟩⟩; (try first | exact ⟨rfl, _, World.drewN_drewN _ _ _⟩ | exact ⟨rfl, _, Eq.trans (World.drewN_drewN _ _ _) (congrArg (World.drewN _) (Nat.add_assoc _ _ _))⟩))))
       go_ret
       exact ⟨by first | rfl | (simp <;> rfl) | (simp [*] <;> rfl), bq2_ HB.out GE317.out GE318.out⟩
      ·rw [if_neg c13] at H
       have c13b0 : ((rd l0_2 0) == (rd l1_2 0)) = false := beq_eq_false_iff_ne.mpr c13
       have c13b1 : ((rd l0_2 0) != (rd l1_2 0)) = true := bne_iff_ne.mpr c13
       obtain rfl := Option.some.inj H
       go_enter Try.func35, Try.ntmps35
       go_wp2_with (first | ((with_reducible refine gate_dst (N := 2) rfl ?_); refine box_event ?hg (N := 2) ?hd (cs := #[.int .i64 a0_0, .slice A0_1 l0_1.length c0_1, .slice A0_2 l0_2.length c0_2]) (t := 35) ?hr ?_; (case hd => rfl); (case hg => rfl); (case hr => first | (go_simp; done) | (go_simp; rfl)); intro gb317 hg w20 hbox hb; have BK317 := Aside0.mk (hbox); have GW317 := Aside0.mk ((by rw [hg]; exact (below_size (bq0_ HB.out)) : w.heap.size ≤ gb317)); have GE317 := Aside0.mk ((by rw [hg]; exact (below_size (bq0_ HB.out)) : w.heap.size ≤ gb317)); replace HB := Aside0.mk (below_step (bq0_ HB.out) hb); clear hb hbox hg) | ((with_reducible refine gate_dst (N := 3) rfl ?_); refine box_event ?hg (N := 3) ?hd (cs := #[.int .i64 a1_0, .slice A1_1 l1_1.length c1_1, .slice A1_2 l1_2.length c1_2]) (t := 35) ?hr ?_; (case hd => rfl); (case hg => rfl); (case hr => first | (go_simp; done) | (go_simp; rfl)); intro gb318 hg w21 hbox hb; have BK318 := Aside0.mk (hbox); have GW318 := Aside0.mk ((by rw [hg]; exact (below_size (bq1_ HB.out GE317.out)) : w.heap.size ≤ gb318)); have GE318 := Aside0.mk ((by rw [hg]; exact (below_size (bq1_ HB.out GE317.out)) : w.heap.size ≤ gb318)); have NB317_318 := Aside0.mk ((by rw [hg]; exact Nat.ne_of_lt (blk_lt (g := gb317) (o := .cells #[.int .i64 a0_0, .slice A0_1 l0_1.length c0_1, .slice A0_2 l0_2.length c0_2] 35 (0, 0)) (mvK_ BK317.out)) : gb317 ≠ gb318)); have NB318_317 := Aside0.mk ((by rw [hg]; exact Nat.ne_of_gt (blk_lt (g := gb317) (o := .cells #[.int .i64 a0_0, .slice A0_1 l0_1.length c0_1, .slice A0_2 l0_2.length c0_2] 35 (0, 0)) (mvK_ BK317.out)) : gb318 ≠ gb317)); replace BK317 := Aside0.mk (blk_below (g := gb317) (o := .cells #[.int .i64 a0_0, .slice A0_1 l0_1.length c0_1, .slice A0_2 l0_2.length c0_2] 35 (0, 0)) (mvK_ BK317.out) hb); replace HB := Aside0.mk (below_step (bq1_ HB.out GE317.out) hb); clear hb hbox hg; have hnb22 := NB317_318.out; have hnc22 := NB318_317.out; have hcz23_0 : w21.cell? ⟨gb317, 0, none⟩ = some (.int .i64 a0_0) := (blk_cell BK317.out 0).trans rfl; have hcz23_1 : w21.cell? ⟨gb317, 1, none⟩ = some (.slice A0_1 l0_1.length c0_1) := (blk_cell BK317.out 1).trans rfl; have hcz23_2 : w21.cell? ⟨gb317, 2, none⟩ = some (.slice A0_2 l0_2.length c0_2) := (blk_cell BK317.out 2).trans rfl; have hfz23_0 := blk_frozen BK317.out 0; have hfz23_1 := blk_frozen BK317.out 1; have hfz23_2 := blk_frozen BK317.out 2; have hcz24_0 : w21.cell? ⟨gb318, 0, none⟩ = some (.int .i64 a1_0) := (blk_cell BK318.out 0).trans rfl; have hcz24_1 : w21.cell? ⟨gb318, 1, none⟩ = some (.slice A1_1 l1_1.length c1_1) := (blk_cell BK318.out 1).trans rfl; have hcz24_2 : w21.cell? ⟨gb318, 2, none⟩ = some (.slice A1_2 l1_2.length c1_2) := (blk_cell BK318.out 2).trans rfl; have hfz24_0 := blk_frozen BK318.out 0; have hfz24_1 := blk_frozen BK318.out 1; have hfz24_2 := blk_frozen BK318.out 2; have p319 : 0 ≤ (0 : Int) := (by omega); have q319 : 0 < (l0_2.length : Int) := od_; obtain ⟨ad319, e319, hx319_0⟩ := Kd.at_int HR0_2.out 0 p319 q319; cases e319; have qi319 : (0 < l0_2.length) = True := eq_true (by omega); (try rw [show ((0 : Int)).toNat = 0 from rfl] at hx319_0); (try rw [Addr.add_zero'] at hx319_0); replace hx319_0 := (HB.out.cell (World.block_lt_of_cell? w _ hx319_0)).trans hx319_0; replace p319 := eq_true p319; replace q319 := eq_true q319; have p320 : 0 ≤ (0 : Int) := (by omega); have q320 : 0 < (l1_2.length : Int) := od_; obtain ⟨ad320, e320, hx320_0⟩ := Kd.at_int HR1_2.out 0 p320 q320; cases e320; have qi320 : (0 < l1_2.length) = True := eq_true (by omega); (try rw [show ((0 : Int)).toNat = 0 from rfl] at hx320_0); (try rw [Addr.add_zero'] at hx320_0); replace hx320_0 := (HB.out.cell (World.block_lt_of_cell? w _ hx320_0)).trans hx320_0; replace p320 := eq_true p320; replace q320 := eq_true q320))
       repeat (go_quiet (first | ((with_reducible refine gate_dst (N := 2) rfl ?_); refine box_event ?hg (N := 2) ?hd (cs := #[.int .i64 a0_0, .slice A0_1 l0_1.length c0_1, .slice A0_2 l0_2.length c0_2]) (t := 35) ?hr ?_; (case hd => rfl); (case hg => rfl); (case hr => first | (go_simp; done) | (go_simp; rfl)); intro gb317 hg w20 hbox hb; have BK317 := Aside0.mk (hbox); have GW317 := Aside0.mk ((by rw [hg]; exact (below_size (bq0_ HB.out)) : w.heap.size ≤ gb317)); have GE317 := Aside0.mk ((by rw [hg]; exact (below_size (bq0_ HB.out)) : w.heap.size ≤ gb317)); replace HB := Aside0.mk (below_step (bq0_ HB.out) hb); clear hb hbox hg) | ((with_reducible refine gate_dst (N := 3) rfl ?_); refine box_event ?hg (N := 3) ?hd (cs := #[.int .i64 a1_0, .slice A1_1 l1_1.length c1_1, .slice A1_2 l1_2.length c1_2]) (t := 35) ?hr ?_; (case hd => rfl); (case hg => rfl); (case hr => first | (go_simp; done) | (go_simp; rfl)); intro gb318 hg w21 hbox hb; have BK318 := Aside0.mk (hbox); have GW318 := Aside0.mk ((by rw [hg]; exact (below_size (bq1_ HB.out GE317.out)) : w.heap.size ≤ gb318)); have GE318 := Aside0.mk ((by rw [hg]; exact (below_size (bq1_ HB.out GE317.out)) : w.heap.size ≤ gb318)); have NB317_318 := Aside0.mk ((by rw [hg]; exact Nat.ne_of_lt (blk_lt (g := gb317) (o := .cells #[.int .i64 a0_0, .slice A0_1 l0_1.length c0_1, .slice A0_2 l0_2.length c0_2] 35 (0, 0)) (mvK_ BK317.out)) : gb317 ≠ gb318)); have NB318_317 := Aside0.mk ((by rw [hg]; exact Nat.ne_of_gt (blk_lt (g := gb317) (o := .cells #[.int .i64 a0_0, .slice A0_1 l0_1.length c0_1, .slice A0_2 l0_2.length c0_2] 35 (0, 0)) (mvK_ BK317.out)) : gb318 ≠ gb317)); replace BK317 := Aside0.mk (blk_below (g := gb317) (o := .cells #[.int .i64 a0_0, .slice A0_1 l0_1.length c0_1, .slice A0_2 l0_2.length c0_2] 35 (0, 0)) (mvK_ BK317.out) hb); replace HB := Aside0.mk (below_step (bq1_ HB.out GE317.out) hb); clear hb hbox hg; have hnb22 := NB317_318.out; have hnc22 := NB318_317.out; have hcz23_0 : w21.cell? ⟨gb317, 0, none⟩ = some (.int .i64 a0_0) := (blk_cell BK317.out 0).trans rfl; have hcz23_1 : w21.cell? ⟨gb317, 1, none⟩ = some (.slice A0_1 l0_1.length c0_1) := (blk_cell BK317.out 1).trans rfl; have hcz23_2 : w21.cell? ⟨gb317, 2, none⟩ = some (.slice A0_2 l0_2.length c0_2) := (blk_cell BK317.out 2).trans rfl; have hfz23_0 := blk_frozen BK317.out 0; have hfz23_1 := blk_frozen BK317.out 1; have hfz23_2 := blk_frozen BK317.out 2; have hcz24_0 : w21.cell? ⟨gb318, 0, none⟩ = some (.int .i64 a1_0) := (blk_cell BK318.out 0).trans rfl; have hcz24_1 : w21.cell? ⟨gb318, 1, none⟩ = some (.slice A1_1 l1_1.length c1_1) := (blk_cell BK318.out 1).trans rfl; have hcz24_2 : w21.cell? ⟨gb318, 2, none⟩ = some (.slice A1_2 l1_2.length c1_2) := (blk_cell BK318.out 2).trans rfl; have hfz24_0 := blk_frozen BK318.out 0; have hfz24_1 := blk_frozen BK318.out 1; have hfz24_2 := blk_frozen BK318.out 2; have p319 : 0 ≤ (0 : Int) := (by omega); have q319 : 0 < (l0_2.length : Int) := od_; obtain ⟨ad319, e319, hx319_0⟩ := Kd.at_int HR0_2.out 0 p319 q319; cases e319; have qi319 : (0 < l0_2.length) = True := eq_true (by omega); (try rw [show ((0 : Int)).toNat = 0 from rfl] at hx319_0); (try rw [Addr.add_zero'] at hx319_0); replace hx319_0 := (HB.out.cell (World.block_lt_of_cell? w _ hx319_0)).trans hx319_0; replace p319 := eq_true p319; replace q319 := eq_true q319; have p320 : 0 ≤ (0 : Int) := (by omega); have q320 : 0 < (l1_2.length : Int) := od_; obtain ⟨ad320, e320, hx320_0⟩ := Kd.at_int HR1_2.out 0 p320 q320; cases e320; have qi320 : (0 < l1_2.length) = True := eq_true (by omega); (try rw [show ((0 : Int)).toNat = 0 from rfl] at hx320_0); (try rw [Addr.add_zero'] at hx320_0); replace hx320_0 := (HB.out.cell (World.block_lt_of_cell? w _ hx320_0)).trans hx320_0; replace p320 := eq_true p320; replace q320 := eq_true q320)); try go_wp2_with (first | ((with_reducible refine gate_dst (N := 2) rfl ?_); refine box_event ?hg (N := 2) ?hd (cs := #[.int .i64 a0_0, .slice A0_1 l0_1.length c0_1, .slice A0_2 l0_2.length c0_2]) (t := 35) ?hr ?_; (case hd => rfl); (case hg => rfl); (case hr => first | (go_simp; done) | (go_simp; rfl)); intro gb317 hg w20 hbox hb; have BK317 := Aside0.mk (hbox); have GW317 := Aside0.mk ((by rw [hg]; exact (below_size (bq0_ HB.out)) : w.heap.size ≤ gb317)); have GE317 := Aside0.mk ((by rw [hg]; exact (below_size (bq0_ HB.out)) : w.heap.size ≤ gb317)); replace HB := Aside0.mk (below_step (bq0_ HB.out) hb); clear hb hbox hg) | ((with_reducible refine gate_dst (N := 3) rfl ?_); refine box_event ?hg (N := 3) ?hd (cs := #[.int .i64 a1_0, .slice A1_1 l1_1.length c1_1, .slice A1_2 l1_2.length c1_2]) (t := 35) ?hr ?_; (case hd => rfl); (case hg => rfl); (case hr => first | (go_simp; done) | (go_simp; rfl)); intro gb318 hg w21 hbox hb; have BK318 := Aside0.mk (hbox); have GW318 := Aside0.mk ((by rw [hg]; exact (below_size (bq1_ HB.out GE317.out)) : w.heap.size ≤ gb318)); have GE318 := Aside0.mk ((by rw [hg]; exact (below_size (bq1_ HB.out GE317.out)) : w.heap.size ≤ gb318)); have NB317_318 := Aside0.mk ((by rw [hg]; exact Nat.ne_of_lt (blk_lt (g := gb317) (o := .cells #[.int .i64 a0_0, .slice A0_1 l0_1.length c0_1, .slice A0_2 l0_2.length c0_2] 35 (0, 0)) (mvK_ BK317.out)) : gb317 ≠ gb318)); have NB318_317 := Aside0.mk ((by rw [hg]; exact Nat.ne_of_gt (blk_lt (g := gb317) (o := .cells #[.int .i64 a0_0, .slice A0_1 l0_1.length c0_1, .slice A0_2 l0_2.length c0_2] 35 (0, 0)) (mvK_ BK317.out)) : gb318 ≠ gb317)); replace BK317 := Aside0.mk (blk_below (g := gb317) (o := .cells #[.int .i64 a0_0, .slice A0_1 l0_1.length c0_1, .slice A0_2 l0_2.length c0_2] 35 (0, 0)) (mvK_ BK317.out) hb); replace HB := Aside0.mk (below_step (bq1_ HB.out GE317.out) hb); clear hb hbox hg; have hnb22 := NB317_318.out; have hnc22 := NB318_317.out; have hcz23_0 : w21.cell? ⟨gb317, 0, none⟩ = some (.int .i64 a0_0) := (blk_cell BK317.out 0).trans rfl; have hcz23_1 : w21.cell? ⟨gb317, 1, none⟩ = some (.slice A0_1 l0_1.length c0_1) := (blk_cell BK317.out 1).trans rfl; have hcz23_2 : w21.cell? ⟨gb317, 2, none⟩ = some (.slice A0_2 l0_2.length c0_2) := (blk_cell BK317.out 2).trans rfl; have hfz23_0 := blk_frozen BK317.out 0; have hfz23_1 := blk_frozen BK317.out 1; have hfz23_2 := blk_frozen BK317.out 2; have hcz24_0 : w21.cell? ⟨gb318, 0, none⟩ = some (.int .i64 a1_0) := (blk_cell BK318.out 0).trans rfl; have hcz24_1 : w21.cell? ⟨gb318, 1, none⟩ = some (.slice A1_1 l1_1.length c1_1) := (blk_cell BK318.out 1).trans rfl; have hcz24_2 : w21.cell? ⟨gb318, 2, none⟩ = some (.slice A1_2 l1_2.length c1_2) := (blk_cell BK318.out 2).trans rfl; have hfz24_0 := blk_frozen BK318.out 0; have hfz24_1 := blk_frozen BK318.out 1; have hfz24_2 := blk_frozen BK318.out 2; have p319 : 0 ≤ (0 : Int) := (by omega); have q319 : 0 < (l0_2.length : Int) := od_; obtain ⟨ad319, e319, hx319_0⟩ := Kd.at_int HR0_2.out 0 p319 q319; cases e319; have qi319 : (0 < l0_2.length) = True := eq_true (by omega); (try rw [show ((0 : Int)).toNat = 0 from rfl] at hx319_0); (try rw [Addr.add_zero'] at hx319_0); replace hx319_0 := (HB.out.cell (World.block_lt_of_cell? w _ hx319_0)).trans hx319_0; replace p319 := eq_true p319; replace q319 := eq_true q319; have p320 : 0 ≤ (0 : Int) := (by omega); have q320 : 0 < (l1_2.length : Int) := od_; obtain ⟨ad320, e320, hx320_0⟩ := Kd.at_int HR1_2.out 0 p320 q320; cases e320; have qi320 : (0 < l1_2.length) = True := eq_true (by omega); (try rw [show ((0 : Int)).toNat = 0 from rfl] at hx320_0); (try rw [Addr.add_zero'] at hx320_0); replace hx320_0 := (HB.out.cell (World.block_lt_of_cell? w _ hx320_0)).trans hx320_0; replace p320 := eq_true p320; replace q320 := eq_true q320)))
       go_ret
       exact ⟨by first | rfl | (simp <;> rfl) | (simp [*] <;> rfl), bq2_ HB.out GE317.out GE318.out⟩
     ·rw [if_neg c12] at H
      exact absurd H (by simp)
    ·rw [if_neg c11] at H
     exact absurd H (by simp)
   ·rw [if_neg c10] at H
    have c10b0 : (a0_0 == 2) = false := beq_eq_false_iff_ne.mpr c10
    have c10b1 : (a0_0 != 2) = true := bne_iff_ne.mpr c10
    replace H := Option.bind_eq_some_iff.mp H
    obtain ⟨t322, A250, H⟩ := H
    replace H : (some t322) = some r := H
    have A25 := Aside0.mk A250
    clear A250
    obtain rfl := Option.some.inj H
    go_enter Try.func35, Try.ntmps35
    go_wp2_with (first | ((with_reducible refine gate_dst (N := 2) rfl ?_); refine box_event ?hg (N := 2) ?hd (cs := #[.int .i64 a0_0, .slice A0_1 l0_1.length c0_1, .slice A0_2 l0_2.length c0_2]) (t := 35) ?hr ?_; (case hd => rfl); (case hg => rfl); (case hr => first | (go_simp; done) | (go_simp; rfl)); intro gb317 hg w26 hbox hb; have BK317 := Aside0.mk (hbox); have GW317 := Aside0.mk ((by rw [hg]; exact (below_size (bq0_ HB.out)) : w.heap.size ≤ gb317)); have GE317 := Aside0.mk ((by rw [hg]; exact (below_size (bq0_ HB.out)) : w.heap.size ≤ gb317)); replace HB := Aside0.mk (below_step (bq0_ HB.out) hb); clear hb hbox hg) | ((with_reducible refine gate_dst (N := 3) rfl ?_); refine box_event ?hg (N := 3) ?hd (cs := #[.int .i64 a1_0, .slice A1_1 l1_1.length c1_1, .slice A1_2 l1_2.length c1_2]) (t := 35) ?hr ?_; (case hd => rfl); (case hg => rfl); (case hr => first | (go_simp; done) | (go_simp; rfl)); intro gb318 hg w27 hbox hb; have BK318 := Aside0.mk (hbox); have GW318 := Aside0.mk ((by rw [hg]; exact (below_size (bq1_ HB.out GE317.out)) : w.heap.size ≤ gb318)); have GE318 := Aside0.mk ((by rw [hg]; exact (below_size (bq1_ HB.out GE317.out)) : w.heap.size ≤ gb318)); have NB317_318 := Aside0.mk ((by rw [hg]; exact Nat.ne_of_lt (blk_lt (g := gb317) (o := .cells #[.int .i64 a0_0, .slice A0_1 l0_1.length c0_1, .slice A0_2 l0_2.length c0_2] 35 (0, 0)) (mvK_ BK317.out)) : gb317 ≠ gb318)); have NB318_317 := Aside0.mk ((by rw [hg]; exact Nat.ne_of_gt (blk_lt (g := gb317) (o := .cells #[.int .i64 a0_0, .slice A0_1 l0_1.length c0_1, .slice A0_2 l0_2.length c0_2] 35 (0, 0)) (mvK_ BK317.out)) : gb318 ≠ gb317)); replace BK317 := Aside0.mk (blk_below (g := gb317) (o := .cells #[.int .i64 a0_0, .slice A0_1 l0_1.length c0_1, .slice A0_2 l0_2.length c0_2] 35 (0, 0)) (mvK_ BK317.out) hb); replace HB := Aside0.mk (below_step (bq1_ HB.out GE317.out) hb); clear hb hbox hg; have hnb28 := NB317_318.out; have hnc28 := NB318_317.out; have hcz29_0 : w27.cell? ⟨gb317, 0, none⟩ = some (.int .i64 a0_0) := (blk_cell BK317.out 0).trans rfl; have hcz29_1 : w27.cell? ⟨gb317, 1, none⟩ = some (.slice A0_1 l0_1.length c0_1) := (blk_cell BK317.out 1).trans rfl; have hcz29_2 : w27.cell? ⟨gb317, 2, none⟩ = some (.slice A0_2 l0_2.length c0_2) := (blk_cell BK317.out 2).trans rfl; have hfz29_0 := blk_frozen BK317.out 0; have hfz29_1 := blk_frozen BK317.out 1; have hfz29_2 := blk_frozen BK317.out 2; have hcz30_0 : w27.cell? ⟨gb318, 0, none⟩ = some (.int .i64 a1_0) := (blk_cell BK318.out 0).trans rfl; have hcz30_1 : w27.cell? ⟨gb318, 1, none⟩ = some (.slice A1_1 l1_1.length c1_1) := (blk_cell BK318.out 1).trans rfl; have hcz30_2 : w27.cell? ⟨gb318, 2, none⟩ = some (.slice A1_2 l1_2.length c1_2) := (blk_cell BK318.out 2).trans rfl; have hfz30_0 := blk_frozen BK318.out 0; have hfz30_1 := blk_frozen BK318.out 1; have hfz30_2 := blk_frozen BK318.out 2) | (go_at_call 17; (with_reducible refine (fullerref02_Same.calls k _ _ l0_2 _ _ l1_2 t322 _ ?side1 ?side2 ?side3 ?side4 A25.out).mono ?_); (case side1 => exact mvC_ ((Kd.C_below HR0_2.out HB.out))); (case side2 => exact HC0_2.out); (case side3 => exact mvC_ ((Kd.C_below HR1_2.out HB.out))); (case side4 => exact HC1_2.out); rintro e w' ⟨rfl, ⟨nd, rfl⟩⟩; (try first | exact ⟨rfl, _, World.drewN_drewN _ _ _⟩ | exact ⟨rfl, _, Eq.trans (World.drewN_drewN _ _ _) (congrArg (World.drewN _) (Nat.add_assoc _ _ _))⟩)))
    repeat (go_quiet (first | ((with_reducible refine gate_dst (N := 2) rfl ?_); refine box_event ?hg (N := 2) ?hd (cs := #[.int .i64 a0_0, .slice A0_1 l0_1.length c0_1, .slice A0_2 l0_2.length c0_2]) (t := 35) ?hr ?_; (case hd => rfl); (case hg => rfl); (case hr => first | (go_simp; done) | (go_simp; rfl)); intro gb317 hg w26 hbox hb; have BK317 := Aside0.mk (hbox); have GW317 := Aside0.mk ((by rw [hg]; exact (below_size (bq0_ HB.out)) : w.heap.size ≤ gb317)); have GE317 := Aside0.mk ((by rw [hg]; exact (below_size (bq0_ HB.out)) : w.heap.size ≤ gb317)); replace HB := Aside0.mk (below_step (bq0_ HB.out) hb); clear hb hbox hg) | ((with_reducible refine gate_dst (N := 3) rfl ?_); refine box_event ?hg (N := 3) ?hd (cs := #[.int .i64 a1_0, .slice A1_1 l1_1.length c1_1, .slice A1_2 l1_2.length c1_2]) (t := 35) ?hr ?_; (case hd => rfl); (case hg => rfl); (case hr => first | (go_simp; done) | (go_simp; rfl)); intro gb318 hg w27 hbox hb; have BK318 := Aside0.mk (hbox); have GW318 := Aside0.mk ((by rw [hg]; exact (below_size (bq1_ HB.out GE317.out)) : w.heap.size ≤ gb318)); have GE318 := Aside0.mk ((by rw [hg]; exact (below_size (bq1_ HB.out GE317.out)) : w.heap.size ≤ gb318)); have NB317_318 := Aside0.mk ((by rw [hg]; exact Nat.ne_of_lt (blk_lt (g := gb317) (o := .cells #[.int .i64 a0_0, .slice A0_1 l0_1.length c0_1, .slice A0_2 l0_2.length c0_2] 35 (0, 0)) (mvK_ BK317.out)) : gb317 ≠ gb318)); have NB318_317 := Aside0.mk ((by rw [hg]; exact Nat.ne_of_gt (blk_lt (g := gb317) (o := .cells #[.int .i64 a0_0, .slice A0_1 l0_1.length c0_1, .slice A0_2 l0_2.length c0_2] 35 (0, 0)) (mvK_ BK317.out)) : gb318 ≠ gb317)); replace BK317 := Aside0.mk (blk_below (g := gb317) (o := .cells #[.int .i64 a0_0, .slice A0_1 l0_1.length c0_1, .slice A0_2 l0_2.length c0_2] 35 (0, 0)) (mvK_ BK317.out) hb); replace HB := Aside0.mk (below_step (bq1_ HB.out GE317.out) hb); clear hb hbox hg; have hnb28 := NB317_318.out; have hnc28 := NB318_317.out; have hcz29_0 : w27.cell? ⟨gb317, 0, none⟩ = some (.int .i64 a0_0) := (blk_cell BK317.out 0).trans rfl; have hcz29_1 : w27.cell? ⟨gb317, 1, none⟩ = some (.slice A0_1 l0_1.length c0_1) := (blk_cell BK317.out 1).trans rfl; have hcz29_2 : w27.cell? ⟨gb317, 2, none⟩ = some (.slice A0_2 l0_2.length c0_2) := (blk_cell BK317.out 2).trans rfl; have hfz29_0 := blk_frozen BK317.out 0; have hfz29_1 := blk_frozen BK317.out 1; have hfz29_2 := blk_frozen BK317.out 2; have hcz30_0 : w27.cell? ⟨gb318, 0, none⟩ = some (.int .i64 a1_0) := (blk_cell BK318.out 0).trans rfl; have hcz30_1 : w27.cell? ⟨gb318, 1, none⟩ = some (.slice A1_1 l1_1.length c1_1) := (blk_cell BK318.out 1).trans rfl; have hcz30_2 : w27.cell? ⟨gb318, 2, none⟩ = some (.slice A1_2 l1_2.length c1_2) := (blk_cell BK318.out 2).trans rfl; have hfz30_0 := blk_frozen BK318.out 0; have hfz30_1 := blk_frozen BK318.out 1; have hfz30_2 := blk_frozen BK318.out 2) | (go_at_call 17; (with_reducible refine (fullerref02_Same.calls k _ _ l0_2 _ _ l1_2 t322 _ ?side1 ?side2 ?side3 ?side4 A25.out).mono ?_); (case side1 => exact mvC_ ((Kd.C_below HR0_2.out HB.out))); (case side2 => exact HC0_2.out); (case side3 => exact mvC_ ((Kd.C_below HR1_2.out HB.out))); (case side4 => exact HC1_2.out); rintro e w' ⟨rfl, ⟨nd, rfl⟩⟩; (try first | exact ⟨rfl, _, World.drewN_drewN _ _ _⟩ | exact ⟨rfl, _, Eq.trans (World.drewN_drewN _ _ _) (congrArg (World.drewN _) (Nat.add_assoc _ _ _))⟩))); try go_wp2_with (first | ((with_reducible refine gate_dst (N := 2) rfl ?_); refine box_event ?hg (N := 2) ?hd (cs := #[.int .i64 a0_0, .slice A0_1 l0_1.length c0_1, .slice A0_2 l0_2.length c0_2]) (t := 35) ?hr ?_; (case hd => rfl); (case hg => rfl); (case hr => first | (go_simp; done) | (go_simp; rfl)); intro gb317 hg w26 hbox hb; have BK317 := Aside0.mk (hbox); have GW317 := Aside0.mk ((by rw [hg]; exact (below_size (bq0_ HB.out)) : w.heap.size ≤ gb317)); have GE317 := Aside0.mk ((by rw [hg]; exact (below_size (bq0_ HB.out)) : w.heap.size ≤ gb317)); replace HB := Aside0.mk (below_step (bq0_ HB.out) hb); clear hb hbox hg) | ((with_reducible refine gate_dst (N := 3) rfl ?_); refine box_event ?hg (N := 3) ?hd (cs := #[.int .i64 a1_0, .slice A1_1 l1_1.length c1_1, .slice A1_2 l1_2.length c1_2]) (t := 35) ?hr ?_; (case hd => rfl); (case hg => rfl); (case hr => first | (go_simp; done) | (go_simp; rfl)); intro gb318 hg w27 hbox hb; have BK318 := Aside0.mk (hbox); have GW318 := Aside0.mk ((by rw [hg]; exact (below_size (bq1_ HB.out GE317.out)) : w.heap.size ≤ gb318)); have GE318 := Aside0.mk ((by rw [hg]; exact (below_size (bq1_ HB.out GE317.out)) : w.heap.size ≤ gb318)); have NB317_318 := Aside0.mk ((by rw [hg]; exact Nat.ne_of_lt (blk_lt (g := gb317) (o := .cells #[.int .i64 a0_0, .slice A0_1 l0_1.length c0_1, .slice A0_2 l0_2.length c0_2] 35 (0, 0)) (mvK_ BK317.out)) : gb317 ≠ gb318)); have NB318_317 := Aside0.mk ((by rw [hg]; exact Nat.ne_of_gt (blk_lt (g := gb317) (o := .cells #[.int .i64 a0_0, .slice A0_1 l0_1.length c0_1, .slice A0_2 l0_2.length c0_2] 35 (0, 0)) (mvK_ BK317.out)) : gb318 ≠ gb317)); replace BK317 := Aside0.mk (blk_below (g := gb317) (o := .cells #[.int .i64 a0_0, .slice A0_1 l0_1.length c0_1, .slice A0_2 l0_2.length c0_2] 35 (0, 0)) (mvK_ BK317.out) hb); replace HB := Aside0.mk (below_step (bq1_ HB.out GE317.out) hb); clear hb hbox hg; have hnb28 := NB317_318.out; have hnc28 := NB318_317.out; have hcz29_0 : w27.cell? ⟨gb317, 0, none⟩ = some (.int .i64 a0_0) := (blk_cell BK317.out 0).trans rfl; have hcz29_1 : w27.cell? ⟨gb317, 1, none⟩ = some (.slice A0_1 l0_1.length c0_1) := (blk_cell BK317.out 1).trans rfl; have hcz29_2 : w27.cell? ⟨gb317, 2, none⟩ = some (.slice A0_2 l0_2.length c0_2) := (blk_cell BK317.out 2).trans rfl; have hfz29_0 := blk_frozen BK317.out 0; have hfz29_1 := blk_frozen BK317.out 1; have hfz29_2 := blk_frozen BK317.out 2; have hcz30_0 : w27.cell? ⟨gb318, 0, none⟩ = some (.int .i64 a1_0) := (blk_cell BK318.out 0).trans rfl; have hcz30_1 : w27.cell? ⟨gb318, 1, none⟩ = some (.slice A1_1 l1_1.length c1_1) := (blk_cell BK318.out 1).trans rfl; have hcz30_2 : w27.cell? ⟨gb318, 2, none⟩ = some (.slice A1_2 l1_2.length c1_2) := (blk_cell BK318.out 2).trans rfl; have hfz30_0 := blk_frozen BK318.out 0; have hfz30_1 := blk_frozen BK318.out 1; have hfz30_2 := blk_frozen BK318.out 2) | (go_at_call 17; (with_reducible refine (fullerref02_Same.calls k _ _ l0_2 _ _ l1_2 t322 _ ?side1 ?side2 ?side3 ?side4 A25.out).mono ?_); (case side1 => exact mvC_ ((Kd.C_below HR0_2.out HB.out))); (case side2 => exact HC0_2.out); (case side3 => exact mvC_ ((Kd.C_below HR1_2.out HB.out))); (case side4 => exact HC1_2.out); rintro e w' ⟨rfl, ⟨nd, rfl⟩⟩; (try first | exact ⟨rfl, _, World.drewN_drewN _ _ _⟩ | exact ⟨rfl, _, Eq.trans (World.drewN_drewN _ _ _) (congrArg (World.drewN _) (Nat.add_assoc _ _ _))⟩))))
    go_ret
    exact ⟨by first | rfl | (simp <;> rfl) | (simp [*] <;> rfl), bq2_ HB.out GE317.out GE318.out⟩
 ·rw [if_neg c3] at H
  have c3b0 : (a0_0 == a1_0) = false := beq_eq_false_iff_ne.mpr c3
  have c3b1 : (a0_0 != a1_0) = true := bne_iff_ne.mpr c3
  obtain rfl := Option.some.inj H
  go_enter Try.func35, Try.ntmps35
  go_wp2_with (first | ((with_reducible refine gate_dst (N := 2) rfl ?_); refine box_event ?hg (N := 2) ?hd (cs := #[.int .i64 a0_0, .slice A0_1 l0_1.length c0_1, .slice A0_2 l0_2.length c0_2]) (t := 35) ?hr ?_; (case hd => rfl); (case hg => rfl); (case hr => first | (go_simp; done) | (go_simp; rfl)); intro gb317 hg w31 hbox hb; have BK317 := Aside0.mk (hbox); have GW317 := Aside0.mk ((by rw [hg]; exact (below_size (bq0_ HB.out)) : w.heap.size ≤ gb317)); have GE317 := Aside0.mk ((by rw [hg]; exact (below_size (bq0_ HB.out)) : w.heap.size ≤ gb317)); replace HB := Aside0.mk (below_step (bq0_ HB.out) hb); clear hb hbox hg) | ((with_reducible refine gate_dst (N := 3) rfl ?_); refine box_event ?hg (N := 3) ?hd (cs := #[.int .i64 a1_0, .slice A1_1 l1_1.length c1_1, .slice A1_2 l1_2.length c1_2]) (t := 35) ?hr ?_; (case hd => rfl); (case hg => rfl); (case hr => first | (go_simp; done) | (go_simp; rfl)); intro gb318 hg w32 hbox hb; have BK318 := Aside0.mk (hbox); have GW318 := Aside0.mk ((by rw [hg]; exact (below_size (bq1_ HB.out GE317.out)) : w.heap.size ≤ gb318)); have GE318 := Aside0.mk ((by rw [hg]; exact (below_size (bq1_ HB.out GE317.out)) : w.heap.size ≤ gb318)); have NB317_318 := Aside0.mk ((by rw [hg]; exact Nat.ne_of_lt (blk_lt (g := gb317) (o := .cells #[.int .i64 a0_0, .slice A0_1 l0_1.length c0_1, .slice A0_2 l0_2.length c0_2] 35 (0, 0)) (mvK_ BK317.out)) : gb317 ≠ gb318)); have NB318_317 := Aside0.mk ((by rw [hg]; exact Nat.ne_of_gt (blk_lt (g := gb317) (o := .cells #[.int .i64 a0_0, .slice A0_1 l0_1.length c0_1, .slice A0_2 l0_2.length c0_2] 35 (0, 0)) (mvK_ BK317.out)) : gb318 ≠ gb317)); replace BK317 := Aside0.mk (blk_below (g := gb317) (o := .cells #[.int .i64 a0_0, .slice A0_1 l0_1.length c0_1, .slice A0_2 l0_2.length c0_2] 35 (0, 0)) (mvK_ BK317.out) hb); replace HB := Aside0.mk (below_step (bq1_ HB.out GE317.out) hb); clear hb hbox hg; have hnb33 := NB317_318.out; have hnc33 := NB318_317.out; have hcz34_0 : w32.cell? ⟨gb317, 0, none⟩ = some (.int .i64 a0_0) := (blk_cell BK317.out 0).trans rfl; have hcz34_1 : w32.cell? ⟨gb317, 1, none⟩ = some (.slice A0_1 l0_1.length c0_1) := (blk_cell BK317.out 1).trans rfl; have hcz34_2 : w32.cell? ⟨gb317, 2, none⟩ = some (.slice A0_2 l0_2.length c0_2) := (blk_cell BK317.out 2).trans rfl; have hfz34_0 := blk_frozen BK317.out 0; have hfz34_1 := blk_frozen BK317.out 1; have hfz34_2 := blk_frozen BK317.out 2; have hcz35_0 : w32.cell? ⟨gb318, 0, none⟩ = some (.int .i64 a1_0) := (blk_cell BK318.out 0).trans rfl; have hcz35_1 : w32.cell? ⟨gb318, 1, none⟩ = some (.slice A1_1 l1_1.length c1_1) := (blk_cell BK318.out 1).trans rfl; have hcz35_2 : w32.cell? ⟨gb318, 2, none⟩ = some (.slice A1_2 l1_2.length c1_2) := (blk_cell BK318.out 2).trans rfl; have hfz35_0 := blk_frozen BK318.out 0; have hfz35_1 := blk_frozen BK318.out 1; have hfz35_2 := blk_frozen BK318.out 2))
  repeat (go_quiet (first | ((with_reducible refine gate_dst (N := 2) rfl ?_); refine box_event ?hg (N := 2) ?hd (cs := #[.int .i64 a0_0, .slice A0_1 l0_1.length c0_1, .slice A0_2 l0_2.length c0_2]) (t := 35) ?hr ?_; (case hd => rfl); (case hg => rfl); (case hr => first | (go_simp; done) | (go_simp; rfl)); intro gb317 hg w31 hbox hb; have BK317 := Aside0.mk (hbox); have GW317 := Aside0.mk ((by rw [hg]; exact (below_size (bq0_ HB.out)) : w.heap.size ≤ gb317)); have GE317 := Aside0.mk ((by rw [hg]; exact (below_size (bq0_ HB.out)) : w.heap.size ≤ gb317)); replace HB := Aside0.mk (below_step (bq0_ HB.out) hb); clear hb hbox hg) | ((with_reducible refine gate_dst (N := 3) rfl ?_); refine box_event ?hg (N := 3) ?hd (cs := #[.int .i64 a1_0, .slice A1_1 l1_1.length c1_1, .slice A1_2 l1_2.length c1_2]) (t := 35) ?hr ?_; (case hd => rfl); (case hg => rfl); (case hr => first | (go_simp; done) | (go_simp; rfl)); intro gb318 hg w32 hbox hb; have BK318 := Aside0.mk (hbox); have GW318 := Aside0.mk ((by rw [hg]; exact (below_size (bq1_ HB.out GE317.out)) : w.heap.size ≤ gb318)); have GE318 := Aside0.mk ((by rw [hg]; exact (below_size (bq1_ HB.out GE317.out)) : w.heap.size ≤ gb318)); have NB317_318 := Aside0.mk ((by rw [hg]; exact Nat.ne_of_lt (blk_lt (g := gb317) (o := .cells #[.int .i64 a0_0, .slice A0_1 l0_1.length c0_1, .slice A0_2 l0_2.length c0_2] 35 (0, 0)) (mvK_ BK317.out)) : gb317 ≠ gb318)); have NB318_317 := Aside0.mk ((by rw [hg]; exact Nat.ne_of_gt (blk_lt (g := gb317) (o := .cells #[.int .i64 a0_0, .slice A0_1 l0_1.length c0_1, .slice A0_2 l0_2.length c0_2] 35 (0, 0)) (mvK_ BK317.out)) : gb318 ≠ gb317)); replace BK317 := Aside0.mk (blk_below (g := gb317) (o := .cells #[.int .i64 a0_0, .slice A0_1 l0_1.length c0_1, .slice A0_2 l0_2.length c0_2] 35 (0, 0)) (mvK_ BK317.out) hb); replace HB := Aside0.mk (below_step (bq1_ HB.out GE317.out) hb); clear hb hbox hg; have hnb33 := NB317_318.out; have hnc33 := NB318_317.out; have hcz34_0 : w32.cell? ⟨gb317, 0, none⟩ = some (.int .i64 a0_0) := (blk_cell BK317.out 0).trans rfl; have hcz34_1 : w32.cell? ⟨gb317, 1, none⟩ = some (.slice A0_1 l0_1.length c0_1) := (blk_cell BK317.out 1).trans rfl; have hcz34_2 : w32.cell? ⟨gb317, 2, none⟩ = some (.slice A0_2 l0_2.length c0_2) := (blk_cell BK317.out 2).trans rfl; have hfz34_0 := blk_frozen BK317.out 0; have hfz34_1 := blk_frozen BK317.out 1; have hfz34_2 := blk_frozen BK317.out 2; have hcz35_0 : w32.cell? ⟨gb318, 0, none⟩ = some (.int .i64 a1_0) := (blk_cell BK318.out 0).trans rfl; have hcz35_1 : w32.cell? ⟨gb318, 1, none⟩ = some (.slice A1_1 l1_1.length c1_1) := (blk_cell BK318.out 1).trans rfl; have hcz35_2 : w32.cell? ⟨gb318, 2, none⟩ = some (.slice A1_2 l1_2.length c1_2) := (blk_cell BK318.out 2).trans rfl; have hfz35_0 := blk_frozen BK318.out 0; have hfz35_1 := blk_frozen BK318.out 1; have hfz35_2 := blk_frozen BK318.out 2)); try go_wp2_with (first | ((with_reducible refine gate_dst (N := 2) rfl ?_); refine box_event ?hg (N := 2) ?hd (cs := #[.int .i64 a0_0, .slice A0_1 l0_1.length c0_1, .slice A0_2 l0_2.length c0_2]) (t := 35) ?hr ?_; (case hd => rfl); (case hg => rfl); (case hr => first | (go_simp; done) | (go_simp; rfl)); intro gb317 hg w31 hbox hb; have BK317 := Aside0.mk (hbox); have GW317 := Aside0.mk ((by rw [hg]; exact (below_size (bq0_ HB.out)) : w.heap.size ≤ gb317)); have GE317 := Aside0.mk ((by rw [hg]; exact (below_size (bq0_ HB.out)) : w.heap.size ≤ gb317)); replace HB := Aside0.mk (below_step (bq0_ HB.out) hb); clear hb hbox hg) | ((with_reducible refine gate_dst (N := 3) rfl ?_); refine box_event ?hg (N := 3) ?hd (cs := #[.int .i64 a1_0, .slice A1_1 l1_1.length c1_1, .slice A1_2 l1_2.length c1_2]) (t := 35) ?hr ?_; (case hd => rfl); (case hg => rfl); (case hr => first | (go_simp; done) | (go_simp; rfl)); intro gb318 hg w32 hbox hb; have BK318 := Aside0.mk (hbox); have GW318 := Aside0.mk ((by rw [hg]; exact (below_size (bq1_ HB.out GE317.out)) : w.heap.size ≤ gb318)); have GE318 := Aside0.mk ((by rw [hg]; exact (below_size (bq1_ HB.out GE317.out)) : w.heap.size ≤ gb318)); have NB317_318 := Aside0.mk ((by rw [hg]; exact Nat.ne_of_lt (blk_lt (g := gb317) (o := .cells #[.int .i64 a0_0, .slice A0_1 l0_1.length c0_1, .slice A0_2 l0_2.length c0_2] 35 (0, 0)) (mvK_ BK317.out)) : gb317 ≠ gb318)); have NB318_317 := Aside0.mk ((by rw [hg]; exact Nat.ne_of_gt (blk_lt (g := gb317) (o := .cells #[.int .i64 a0_0, .slice A0_1 l0_1.length c0_1, .slice A0_2 l0_2.length c0_2] 35 (0, 0)) (mvK_ BK317.out)) : gb318 ≠ gb317)); replace BK317 := Aside0.mk (blk_below (g := gb317) (o := .cells #[.int .i64 a0_0, .slice A0_1 l0_1.length c0_1, .slice A0_2 l0_2.length c0_2] 35 (0, 0)) (mvK_ BK317.out) hb); replace HB := Aside0.mk (below_step (bq1_ HB.out GE317.out) hb); clear hb hbox hg; have hnb33 := NB317_318.out; have hnc33 := NB318_317.out; have hcz34_0 : w32.cell? ⟨gb317, 0, none⟩ = some (.int .i64 a0_0) := (blk_cell BK317.out 0).trans rfl; have hcz34_1 : w32.cell? ⟨gb317, 1, none⟩ = some (.slice A0_1 l0_1.length c0_1) := (blk_cell BK317.out 1).trans rfl; have hcz34_2 : w32.cell? ⟨gb317, 2, none⟩ = some (.slice A0_2 l0_2.length c0_2) := (blk_cell BK317.out 2).trans rfl; have hfz34_0 := blk_frozen BK317.out 0; have hfz34_1 := blk_frozen BK317.out 1; have hfz34_2 := blk_frozen BK317.out 2; have hcz35_0 : w32.cell? ⟨gb318, 0, none⟩ = some (.int .i64 a1_0) := (blk_cell BK318.out 0).trans rfl; have hcz35_1 : w32.cell? ⟨gb318, 1, none⟩ = some (.slice A1_1 l1_1.length c1_1) := (blk_cell BK318.out 1).trans rfl; have hcz35_2 : w32.cell? ⟨gb318, 2, none⟩ = some (.slice A1_2 l1_2.length c1_2) := (blk_cell BK318.out 2).trans rfl; have hfz35_0 := blk_frozen BK318.out 0; have hfz35_1 := blk_frozen BK318.out 1; have hfz35_2 := blk_frozen BK318.out 2)))
  go_ret
  exact ⟨by first | rfl | (simp <;> rfl) | (simp [*] <;> rfl), bq2_ HB.out GE317.out GE318.out⟩

end Go.Proofs.Ytklnbfdoklcmfaa.A
