/- Lean functions that answer as the Go functions do, and the proofs that they do; no conditions. Written by this session's own driver: a scratch copy of the kit's print with the session's additions (wip/xprint). -/
import Derived.Test.YtklnbfdoklcmfaaAx0
import Derived.Test.YtklnbfdoklcmfaaAx14
namespace Go.Proofs.Ytklnbfdoklcmfaa.A
open Go.RowKit Go.Proofs.YtklnbfdoklcmfaaW.PrintWords Go.Proofs.YtklnbfdoklcmfaaW.PrintLast Go.Proofs.YtklnbfdoklcmfaaW.PrintMore
attribute [local go_sem] max2_int min2_int max_two min_two max_three min_three max_four min_four   -- for this text's walks alone
set_option linter.unusedVariables false
set_option linter.unusedSimpArgs false

/-! ### fullerref10_Uses: function 21 -/
mutual
def fullerref10_Uses.l0 : Nat → List (S35) → Int → Bool → List Int → Int → Option (List Int)
 | 0, _, _, _, _, _ => none
 | k + 1, x0, x1, x5, x6, x7 => if x7 < (x0.length : Int) then (fullerref10_Uses.j1 k x0 x1 x5 x6 x7 x5) else (fullerref10_Uses.j1 k x0 x1 x5 x6 x7 false)
def fullerref10_Uses.j1 : Nat → List (S35) → Int → Bool → List Int → Int → Bool → Option (List Int)
 | 0, _, _, _, _, _, _ => none
 | k + 1, x0, x1, x5, x6, x7, x17 => if x17 = true then (fullerref10_Uses.l1 k x0 x1 x5 x6 x7 0) else (some x6)
def fullerref10_Uses.l1 : Nat → List (S35) → Int → Bool → List Int → Int → Int → Option (List Int)
 | 0, _, _, _, _, _, _ => none
 | k + 1, x0, x1, x5, x6, x7, x8 => if 0 ≤ x7 then (if x7 < (x0.length : Int) then (if x8 < (((rd_T35 x0 x7).f1).length : Int) then (if 0 ≤ x8 then (if (rd ((rd_T35 x0 x7).f1) x8) = x1 then (if x6.length < 17592186044416 then (fullerref10_Uses.l1 k x0 x1 x5 (x6 ++ [x7]) x7 (wrap64 (x8 + 1))) else (none)) else (fullerref10_Uses.l1 k x0 x1 x5 x6 x7 (wrap64 (x8 + 1)))) else (none)) else (fullerref10_Uses.l0 k x0 x1 x5 x6 (wrap64 (x7 + 1)))) else (none)) else (none)
end
def fullerref10_Uses.f (k : Nat) (l0 : List (S35)) (a1 : Int) : Option (List Int) := (fullerref10_Check.f k l0).bind fun t348 => (fullerref10_Uses.l0 k l0 a1 t348 ([] : List Int) 0)
theorem fullerref10_Uses.mono_l : ∀ k, (∀ y0 y1 y2 y3 y4, LeO (fullerref10_Uses.l0 k y0 y1 y2 y3 y4) (fullerref10_Uses.l0 (k + 1) y0 y1 y2 y3 y4)) ∧ (∀ y0 y1 y2 y3 y4 y5, LeO (fullerref10_Uses.j1 k y0 y1 y2 y3 y4 y5) (fullerref10_Uses.j1 (k + 1) y0 y1 y2 y3 y4 y5)) ∧ (∀ y0 y1 y2 y3 y4 y5, LeO (fullerref10_Uses.l1 k y0 y1 y2 y3 y4 y5) (fullerref10_Uses.l1 (k + 1) y0 y1 y2 y3 y4 y5))
 | 0 => ⟨fun _ _ _ _ _ r h => by simp [fullerref10_Uses.l0] at h, fun _ _ _ _ _ _ r h => by simp [fullerref10_Uses.j1] at h, fun _ _ _ _ _ _ r h => by simp [fullerref10_Uses.l1] at h⟩
 | k + 1 => by
  obtain ⟨ih0, ih1, ih2⟩ := fullerref10_Uses.mono_l k
  refine ⟨?_, ?_, ?_⟩
  ·intro y0 y1 y2 y3 y4
   unfold fullerref10_Uses.l0
   repeat' first
   | (with_reducible exact ih0 _ _ _ _ _)
   | (with_reducible exact ih1 _ _ _ _ _ _)
   | (with_reducible exact ih2 _ _ _ _ _ _)
   | (with_reducible exact fullerref10_Check.mono _ _)
   | (with_reducible exact LeO.refl _)
   | (with_reducible exact LeO.none _)
   | (with_reducible refine LeO.ite ?_ ?_)
   | (with_reducible refine LeO.bind ?_ (fun _ => ?_))
   | exact ih0 _ _ _ _ _
   | exact ih1 _ _ _ _ _ _
   | exact ih2 _ _ _ _ _ _
   | exact fullerref10_Check.mono _ _
   | exact LeO.none _
   | refine LeO.ite ?_ ?_
   | refine LeO.bind ?_ (fun _ => ?_)
  ·intro y0 y1 y2 y3 y4 y5
   unfold fullerref10_Uses.j1
   repeat' first
   | (with_reducible exact ih0 _ _ _ _ _)
   | (with_reducible exact ih1 _ _ _ _ _ _)
   | (with_reducible exact ih2 _ _ _ _ _ _)
   | (with_reducible exact fullerref10_Check.mono _ _)
   | (with_reducible exact LeO.refl _)
   | (with_reducible exact LeO.none _)
   | (with_reducible refine LeO.ite ?_ ?_)
   | (with_reducible refine LeO.bind ?_ (fun _ => ?_))
   | exact ih0 _ _ _ _ _
   | exact ih1 _ _ _ _ _ _
   | exact ih2 _ _ _ _ _ _
   | exact fullerref10_Check.mono _ _
   | exact LeO.none _
   | refine LeO.ite ?_ ?_
   | refine LeO.bind ?_ (fun _ => ?_)
  ·intro y0 y1 y2 y3 y4 y5
   unfold fullerref10_Uses.l1
   repeat' first
   | (with_reducible exact ih0 _ _ _ _ _)
   | (with_reducible exact ih1 _ _ _ _ _ _)
   | (with_reducible exact ih2 _ _ _ _ _ _)
   | (with_reducible exact fullerref10_Check.mono _ _)
   | (with_reducible exact LeO.refl _)
   | (with_reducible exact LeO.none _)
   | (with_reducible refine LeO.ite ?_ ?_)
   | (with_reducible refine LeO.bind ?_ (fun _ => ?_))
   | exact ih0 _ _ _ _ _
   | exact ih1 _ _ _ _ _ _
   | exact ih2 _ _ _ _ _ _
   | exact fullerref10_Check.mono _ _
   | exact LeO.none _
   | refine LeO.ite ?_ ?_
   | refine LeO.bind ?_ (fun _ => ?_)
theorem fullerref10_Uses.mono : ∀ a0 a1 k, LeO (fullerref10_Uses.f k a0 a1) (fullerref10_Uses.f (k + 1) a0 a1) := by
 intro a0 a1 k
 obtain ⟨ih0, ih1, ih2⟩ := fullerref10_Uses.mono_l k
 unfold fullerref10_Uses.f
 repeat' first
   | (with_reducible exact ih0 _ _ _ _ _)
   | (with_reducible exact ih1 _ _ _ _ _ _)
   | (with_reducible exact ih2 _ _ _ _ _ _)
   | (with_reducible exact fullerref10_Check.mono _ _)
   | (with_reducible exact LeO.refl _)
   | (with_reducible exact LeO.none _)
   | (with_reducible refine LeO.ite ?_ ?_)
   | (with_reducible refine LeO.bind ?_ (fun _ => ?_))
   | exact ih0 _ _ _ _ _
   | exact ih1 _ _ _ _ _ _
   | exact ih2 _ _ _ _ _ _
   | exact fullerref10_Check.mono _ _
   | exact LeO.none _
   | refine LeO.ite ?_ ?_
   | refine LeO.bind ?_ (fun _ => ?_)
set_option maxHeartbeats 8000000 in
set_option maxRecDepth 100000 in
theorem fullerref10_Uses.calls (k : Nat) (A0 : Option Addr) (c0 : Nat) (l0 : List (S35)) (a1 : Int) (r : List Int) (w : World) (hr0 : Kd.C k35 w A0 l0.length l0) (hc0 : l0.length ≤ c0) (h : fullerref10_Uses.f k l0 a1 = some r) :
  Calls Try.prog 21 #[.slice A0 l0.length c0, .int .i64 a1] w fun e w' => ∃ v0_ : Value, e = .returned (v0_) ∧ Kd.R (Kd.int .i64) 3 w' w.heap.size (fun _ => True) v0_ r ∧ Below w.heap.size w w' := by
 have HR0 := Aside0.mk hr0
 have HC0 := Aside0.mk hc0
 clear hr0 hc0
 have HB := Aside0.mk (Below.refl w.heap.size w)
 have H : ((fullerref10_Check.f k l0).bind fun t348 => (fullerref10_Uses.l0 k l0 a1 t348 ([] : List Int) 0)) = some r := h
 clear h
 replace H := Option.bind_eq_some_iff.mp H
 obtain ⟨t348, A30, H⟩ := H
 replace H : (fullerref10_Uses.l0 k l0 a1 t348 ([] : List Int) 0) = some r := H
 have A3 := Aside0.mk A30
 clear A30
 have H' := Aside0.mk H
 clear H
 go_enter Try.func21, Try.ntmps21
 go_wp2_with (first | ((with_reducible refine gate_callee (f := 14) rfl ?_); refine gL_ (some 10) Try.func14 #[.slice A0 l0.length c0] ?_; (with_reducible refine (fullerref10_Check.calls k _ _ l0 t348 _ ?side1 ?side2 A3.out).mono ?_); (case side1 => exact mvC_ (HR0.out)); (case side2 => exact HC0.out); rintro e w4 ⟨rfl, hb⟩; refine ⟨_, rfl, ?_⟩; replace HB := Aside0.mk (below_step (bq0_ HB.out) hb); (try clear hb)))
 go_loopg [6, 7] k (fun kq v6 v7 w' => ∃ (x6_1 : List Int) (x7_1 : Int), v7 = .int .i64 x7_1 ∧ Aside0 (fullerref10_Uses.l0 kq l0 a1 t348 x6_1 x7_1 = some r) ∧ Aside0 (kq ≤ k) ∧ Aside0 (Kd.R (Kd.int .i64) 3 w' w.heap.size (fun _ => True) v6 x6_1) ∧ Aside0 (Below w.heap.size w w'))
 case atStart => exact ⟨(([] : List Int)), (0), (by first | rfl | (simp; done) | (simp [*]; done)), H', ⟨Nat.le_refl _⟩, ⟨by first | exact Kd.R_nil _ _ _ _ _ | exact Kd.N_nil _ _ _ _ _ | exact Kd.V_nil _ _ _ _ _ | exact Kd.Q_nil _ _ _ _ _ | exact Kd.S_nil _ _ _ _ _⟩, ⟨bq0_ HB.out⟩⟩
 case round =>
  clear H'
  try clear c1
  try clear c2
  try clear p2
  obtain ⟨x6_1, x7_1, rfl, HA, HK1, HO_6, HB⟩ := hrel
  cases gk with
  | zero => exact absurd HA.out (by simp [fullerref10_Uses.l0])
  | succ k1 =>
   have H := HA.out
   clear HA
   simp only [fullerref10_Uses.l0] at H
   have HC5 := Aside0.mk H
   clear H
   go_upto_region 4 with (fail)
   go_cut [17] (fun v17 wc => ∃ (kq : Nat) (x17_4 : Bool), v17 = .bool x17_4 ∧ Aside0 (fullerref10_Uses.j1 kq l0 a1 t348 x6_1 x7_1 x17_4 = some r) ∧ Aside0 (kq ≤ k1) ∧ Aside0 (Kd.R (Kd.int .i64) 3 wc w.heap.size (fun _ => True) u6 x6_1) ∧ Aside0 (Below w.heap.size w wc))
   case first =>
    have H := HC5.out
    clear HC5
    by_cases c6 : x7_1 < (l0.length : Int)
    ·rw [if_pos c6] at H
     have c6b0 : decide (x7_1 < (l0.length : Int)) = true := decide_eq_true c6
     clear c6
     (first | rw [c6b0] | (simp only [i64_w, i32_w]; rw [c6b0]) | skip)
     have H' := Aside0.mk H
     clear H
     go_wp2
     go_meet
     case rel => exact ⟨_, (t348), (by first | rfl | (simp; done) | (simp [*]; done)), H', ⟨by have := HK1.out; first | omega | exact Nat.le_refl _⟩, ⟨mvR_ HO_6.out⟩, ⟨bq0_ HB.out⟩⟩
    ·rw [if_neg c6] at H
     have c6b0 : decide (x7_1 < (l0.length : Int)) = false := decide_eq_false c6
     clear c6
     (first | rw [c6b0] | (simp only [i64_w, i32_w]; rw [c6b0]) | skip)
     have H' := Aside0.mk H
     clear H
     go_wp2
     go_meet
     case rel => exact ⟨_, (false), (by first | rfl | (simp; done) | (simp [*]; done)), H', ⟨by have := HK1.out; first | omega | exact Nat.le_refl _⟩, ⟨mvR_ HO_6.out⟩, ⟨bq0_ HB.out⟩⟩
   case rest =>
    clear HC5
    try clear c1
    try clear c2
    try clear p2
    try clear c6
    try clear c6b0
    try clear p2
    obtain ⟨kq, x17_4, rfl, HA, HJ4, HO_6, HB⟩ := hcut
    cases kq with
    | zero => exact absurd HA.out (by simp [fullerref10_Uses.j1])
    | succ kj4 =>
     have H := HA.out
     clear HA
     simp only [fullerref10_Uses.j1] at H
     by_cases c7 : x17_4 = true
     ·subst c7
      have H1 : (fullerref10_Uses.l1 kj4 l0 a1 t348 x6_1 x7_1 0) = some r := by rw [if_pos rfl] at H; exact H
      clear H
      have H := H1
      clear H1
      have H' := Aside0.mk H
      clear H
      go_wp2
      go_loopg [6, 8] kj4 (fun kq v6 v8 w' => ∃ (x6_3 : List Int) (x8_3 : Int), v8 = .int .i64 x8_3 ∧ Aside0 (fullerref10_Uses.l1 kq l0 a1 t348 x6_3 x7_1 x8_3 = some r) ∧ Aside0 (kq ≤ kj4) ∧ Aside0 (Kd.R (Kd.int .i64) 3 w' w.heap.size (fun _ => True) v6 x6_3) ∧ Aside0 (Below w.heap.size w w'))
      case atStart => exact ⟨(x6_1), (0), (by first | rfl | (simp; done) | (simp [*]; done)), H', ⟨Nat.le_refl _⟩, ⟨mvR_ HO_6.out⟩, ⟨bq0_ HB.out⟩⟩
      case round =>
       clear H'
       try clear c1
       try clear c2
       try clear p2
       try clear c6
       try clear c6b0
       try clear c7
       try clear p2
       obtain ⟨x6_3, x8_3, rfl, HA, HK3, HO_6, HB⟩ := hrel
       cases gk with
       | zero => exact absurd HA.out (by simp [fullerref10_Uses.l1])
       | succ k3 =>
        have H := HA.out
        clear HA
        simp only [fullerref10_Uses.l1] at H
        by_cases c8 : 0 ≤ x7_1
        ·rw [if_pos c8] at H
         have c8b0 : decide (0 ≤ x7_1) = true := decide_eq_true c8
         clear c8
         by_cases c9 : x7_1 < (l0.length : Int)
         ·rw [if_pos c9] at H
          have c9b0 : decide (x7_1 < (l0.length : Int)) = true := decide_eq_true c9
          clear c9
          by_cases c10 : x8_3 < (((rd_T35 l0 x7_1).f1).length : Int)
          ·rw [if_pos c10] at H
           have c10b0 : decide (x8_3 < (((rd_T35 l0 x7_1).f1).length : Int)) = true := decide_eq_true c10
           clear c10
           by_cases c11 : 0 ≤ x8_3
           ·rw [if_pos c11] at H
            have c11b0 : decide (0 ≤ x8_3) = true := decide_eq_true c11
            clear c11
            by_cases c12 : (rd ((rd_T35 l0 x7_1).f1) x8_3) = a1
            ·rw [if_pos c12] at H
             obtain ⟨c12b0, c12b1⟩ := eqT_ c12
             clear c12
             by_cases c13 : x6_3.length < 17592186044416
             ·rw [if_pos c13] at H
              have LMc13 := Aside0.mk c13
              clear c13
              obtain ⟨y352, hy352⟩ : ∃ y_ : List Int, y_ = (x6_3 ++ [x7_1]) := ⟨_, rfl⟩
              replace H : (fullerref10_Uses.l1 k3 l0 a1 t348 y352 x7_1 (wrap64 (x8_3 + 1))) = some r := by first | (rw [hy352]; with_reducible exact H) | (have H2_ := (Option.bind_some _ _).symm.trans H; rw [hy352]; with_reducible exact H2_) | (have H2_ := (Option.bind_some _ _).symm.trans H; with_reducible exact H2_) | with_reducible exact H | (rw [hy352]; exact H) | exact H
              have Ny352 := Aside0.mk hy352
              clear hy352
              have H' := Aside0.mk H
              clear H
              have p349 : 0 ≤ (x7_1 : Int) := od_
              have q349 : x7_1 < (l0.length : Int) := od_
              obtain ⟨ad349, A349_1, c349_1, A349_2, c349_2, e349, hx349_0, hx349_1, hx349_2, hl349_1, hi349_1, hl349_2, hi349_2⟩ := at_T35 HR0.out x7_1 p349 q349
              cases e349
              replace hx349_0 := (HB.out.cell (World.block_lt_of_cell? w _ hx349_0)).trans hx349_0
              replace hx349_1 := (HB.out.cell (World.block_lt_of_cell? w _ hx349_1)).trans hx349_1
              replace hx349_2 := (HB.out.cell (World.block_lt_of_cell? w _ hx349_2)).trans hx349_2
              have HR349_1 := Aside0.mk hi349_1
              have HC349_1 := Aside0.mk hl349_1
              clear hi349_1 hl349_1
              have HR349_2 := Aside0.mk hi349_2
              have HC349_2 := Aside0.mk hl349_2
              clear hi349_2 hl349_2
              replace p349 := eq_true p349
              replace q349 := eq_true q349
              have p350 : 0 ≤ (x7_1 : Int) := od_
              have q350 : x7_1 < (l0.length : Int) := od_
              obtain ⟨ad350, A350_1, c350_1, A350_2, c350_2, e350, hx350_0, hx350_1, hx350_2, hl350_1, hi350_1, hl350_2, hi350_2⟩ := at_T35 HR0.out x7_1 p350 q350
              obtain rfl : ad349 = ad350 := (by injection e350)
              replace hx350_0 := (HB.out.cell (World.block_lt_of_cell? w _ hx350_0)).trans hx350_0
              replace hx350_1 := (HB.out.cell (World.block_lt_of_cell? w _ hx350_1)).trans hx350_1
              replace hx350_2 := (HB.out.cell (World.block_lt_of_cell? w _ hx350_2)).trans hx350_2
              have HR350_1 := Aside0.mk hi350_1
              have HC350_1 := Aside0.mk hl350_1
              clear hi350_1 hl350_1
              have HR350_2 := Aside0.mk hi350_2
              have HC350_2 := Aside0.mk hl350_2
              clear hi350_2 hl350_2
              replace p350 := eq_true p350
              replace q350 := eq_true q350
              have ea_ := Option.some.inj (hx349_1.symm.trans hx350_1)
              injection ea_ with ea_ en_ ec_
              subst ea_
              subst ec_
              clear en_
              have ea_ := Option.some.inj (hx349_2.symm.trans hx350_2)
              injection ea_ with ea_ en_ ec_
              subst ea_
              subst ec_
              clear en_
              have p351 : 0 ≤ (x8_3 : Int) := od_
              have q351 : x8_3 < (((rd_T35 l0 x7_1).f1).length : Int) := od_
              obtain ⟨ad351, e351, hx351_0⟩ := Kd.at_int HR350_1.out x8_3 p351 q351
              cases e351
              replace hx351_0 := (HB.out.cell (World.block_lt_of_cell? w _ hx351_0)).trans hx351_0
              replace p351 := eq_true p351
              replace q351 := eq_true q351
              go_wp2_with (first | ((with_reducible refine gate_builtin (b := .append) (xs := #[.tmp 40, .tmp 42]) rfl ?_); at_builtin; refine Kd.R_append (Kd.int .i64) (w0 := w) w.heap.size rfl (.tmp 40) (.tmp 42) 25 3 (.int .i64 0) 8 rfl Try.underlying25 info3 rfl (by decide) (by omega) u6 x6_3 x7_1 [.int .i64 x7_1] (fun _ => True) (fun _ => False) rfl rfl ?aP (fun _ hk => hk.elim) ?aF ?aO ?aB ?aS ?aL ?_; (case aP => exact rfl); (case aB => exact (bq0_ HB.out)); (case aF => exact (fun _ _ => trivial)); (case aO => exact (mvR_ HO_6.out)); (case aS => exact (below_size (bq0_ HB.out))); (case aL => have := LMc13.out; omega); intro v353 w14 ho hb hg hat; rw [← Ny352.out] at ho; have HO354 := Aside0.mk (ho); replace HB := Aside0.mk (hb); clear HO_6 ho hb hg hat))
              go_roundg k3
              case measure => have := HK1.out; have := HJ4.out; have := HK3.out; omega
              case rel => exact ⟨(y352), (wrap64 (x8_3 + 1)), (by first | rfl | (simp; done) | (simp [*]; done)), H', ⟨by have := HK1.out; have := HJ4.out; have := HK3.out; omega⟩, ⟨mvR_ HO354.out⟩, ⟨bq0_ HB.out⟩⟩
             ·rw [if_neg c13] at H
              exact absurd H (by simp)
            ·rw [if_neg c12] at H
             have c12b0 : ((rd ((rd_T35 l0 x7_1).f1) x8_3) == a1) = false := beq_eq_false_iff_ne.mpr c12
             have c12b1 : ((rd ((rd_T35 l0 x7_1).f1) x8_3) != a1) = true := bne_iff_ne.mpr c12
             have H' := Aside0.mk H
             clear H
             have p349 : 0 ≤ (x7_1 : Int) := od_
             have q349 : x7_1 < (l0.length : Int) := od_
             obtain ⟨ad349, A349_1, c349_1, A349_2, c349_2, e349, hx349_0, hx349_1, hx349_2, hl349_1, hi349_1, hl349_2, hi349_2⟩ := at_T35 HR0.out x7_1 p349 q349
             cases e349
             replace hx349_0 := (HB.out.cell (World.block_lt_of_cell? w _ hx349_0)).trans hx349_0
             replace hx349_1 := (HB.out.cell (World.block_lt_of_cell? w _ hx349_1)).trans hx349_1
             replace hx349_2 := (HB.out.cell (World.block_lt_of_cell? w _ hx349_2)).trans hx349_2
             have HR349_1 := Aside0.mk hi349_1
             have HC349_1 := Aside0.mk hl349_1
             clear hi349_1 hl349_1
             have HR349_2 := Aside0.mk hi349_2
             have HC349_2 := Aside0.mk hl349_2
             clear hi349_2 hl349_2
             replace p349 := eq_true p349
             replace q349 := eq_true q349
             have p350 : 0 ≤ (x7_1 : Int) := od_
             have q350 : x7_1 < (l0.length : Int) := od_
             obtain ⟨ad350, A350_1, c350_1, A350_2, c350_2, e350, hx350_0, hx350_1, hx350_2, hl350_1, hi350_1, hl350_2, hi350_2⟩ := at_T35 HR0.out x7_1 p350 q350
             obtain rfl : ad349 = ad350 := (by injection e350)
             replace hx350_0 := (HB.out.cell (World.block_lt_of_cell? w _ hx350_0)).trans hx350_0
             replace hx350_1 := (HB.out.cell (World.block_lt_of_cell? w _ hx350_1)).trans hx350_1
             replace hx350_2 := (HB.out.cell (World.block_lt_of_cell? w _ hx350_2)).trans hx350_2
             have HR350_1 := Aside0.mk hi350_1
             have HC350_1 := Aside0.mk hl350_1
             clear hi350_1 hl350_1
             have HR350_2 := Aside0.mk hi350_2
             have HC350_2 := Aside0.mk hl350_2
             clear hi350_2 hl350_2
             replace p350 := eq_true p350
             replace q350 := eq_true q350
             have ea_ := Option.some.inj (hx349_1.symm.trans hx350_1)
             injection ea_ with ea_ en_ ec_
             subst ea_
             subst ec_
             clear en_
             have ea_ := Option.some.inj (hx349_2.symm.trans hx350_2)
             injection ea_ with ea_ en_ ec_
             subst ea_
             subst ec_
             clear en_
             have p351 : 0 ≤ (x8_3 : Int) := od_
             have q351 : x8_3 < (((rd_T35 l0 x7_1).f1).length : Int) := od_
             obtain ⟨ad351, e351, hx351_0⟩ := Kd.at_int HR350_1.out x8_3 p351 q351
             cases e351
             replace hx351_0 := (HB.out.cell (World.block_lt_of_cell? w _ hx351_0)).trans hx351_0
             replace p351 := eq_true p351
             replace q351 := eq_true q351
             go_wp2
             go_roundg k3
             case measure => have := HK1.out; have := HJ4.out; have := HK3.out; omega
             case rel => exact ⟨(x6_3), (wrap64 (x8_3 + 1)), (by first | rfl | (simp; done) | (simp [*]; done)), H', ⟨by have := HK1.out; have := HJ4.out; have := HK3.out; omega⟩, ⟨mvR_ HO_6.out⟩, ⟨bq0_ HB.out⟩⟩
           ·rw [if_neg c11] at H
            exact absurd H (by simp)
          ·rw [if_neg c10] at H
           have c10b0 : decide (x8_3 < (((rd_T35 l0 x7_1).f1).length : Int)) = false := decide_eq_false c10
           clear c10
           have H' := Aside0.mk H
           clear H
           have p349 : 0 ≤ (x7_1 : Int) := od_
           have q349 : x7_1 < (l0.length : Int) := od_
           obtain ⟨ad349, A349_1, c349_1, A349_2, c349_2, e349, hx349_0, hx349_1, hx349_2, hl349_1, hi349_1, hl349_2, hi349_2⟩ := at_T35 HR0.out x7_1 p349 q349
           cases e349
           replace hx349_0 := (HB.out.cell (World.block_lt_of_cell? w _ hx349_0)).trans hx349_0
           replace hx349_1 := (HB.out.cell (World.block_lt_of_cell? w _ hx349_1)).trans hx349_1
           replace hx349_2 := (HB.out.cell (World.block_lt_of_cell? w _ hx349_2)).trans hx349_2
           have HR349_1 := Aside0.mk hi349_1
           have HC349_1 := Aside0.mk hl349_1
           clear hi349_1 hl349_1
           have HR349_2 := Aside0.mk hi349_2
           have HC349_2 := Aside0.mk hl349_2
           clear hi349_2 hl349_2
           replace p349 := eq_true p349
           replace q349 := eq_true q349
           go_wp2
           go_roundg k3
           case measure => have := HK1.out; have := HJ4.out; have := HK3.out; omega
           case rel => exact ⟨(x6_3), (wrap64 (x7_1 + 1)), (by first | rfl | (simp; done) | (simp [*]; done)), H', ⟨by have := HK1.out; have := HJ4.out; have := HK3.out; omega⟩, ⟨mvR_ HO_6.out⟩, ⟨bq0_ HB.out⟩⟩
         ·rw [if_neg c9] at H
          exact absurd H (by simp)
        ·rw [if_neg c8] at H
         exact absurd H (by simp)
     ·replace c7 := Bool.eq_false_iff.mpr c7
      subst c7
      have H1 : (some x6_1) = some r := by rw [if_neg (show ¬ (false = true) by decide)] at H; exact H
      clear H
      have H := H1
      clear H1
      obtain rfl := Option.some.inj H
      go_wp2
      go_ret
      exact ⟨_, by first | rfl | (simp <;> rfl) | (simp [*] <;> rfl), mvR_ HO_6.out, bq0_ HB.out⟩

/-! ### fullerref10_In: function 24 -/
def fullerref10_In.l0 : Nat → List Int → Int → Int → Option (Bool)
  | 0, _, _, _ => none
  | k + 1, x0, x1, x5 => if x5 < (x0.length : Int) then (if 0 ≤ x5 then (if (rd x0 x5) = x1 then (some true) else (fullerref10_In.l0 k x0 x1 (wrap64 (x5 + 1)))) else (none)) else (some false)
def fullerref10_In.f (k : Nat) (l0 : List Int) (a1 : Int) : Option (Bool) := fullerref10_In.l0 k l0 a1 0
theorem fullerref10_In.mono_l : ∀ k, (∀ y0 y1 y2, LeO (fullerref10_In.l0 k y0 y1 y2) (fullerref10_In.l0 (k + 1) y0 y1 y2))
  | 0 => fun _ _ _ r h => by simp [fullerref10_In.l0] at h
  | k + 1 => by
    have ih0 := fullerref10_In.mono_l k
    · intro y0 y1 y2
      unfold fullerref10_In.l0
      repeat' first
      | (with_reducible exact ih0 _ _ _)
      | (with_reducible exact LeO.refl _)
      | (with_reducible exact LeO.none _)
      | (with_reducible refine LeO.ite ?_ ?_)
      | (with_reducible refine LeO.bind ?_ (fun _ => ?_))
      | exact ih0 _ _ _
      | exact LeO.none _
      | refine LeO.ite ?_ ?_
      | refine LeO.bind ?_ (fun _ => ?_)
theorem fullerref10_In.mono : ∀ a0 a1 k, LeO (fullerref10_In.f k a0 a1) (fullerref10_In.f (k + 1) a0 a1) := by
  intro a0 a1 k
  have ih0 := fullerref10_In.mono_l k
  unfold fullerref10_In.f
  repeat' first
      | (with_reducible exact ih0 _ _ _)
      | (with_reducible exact LeO.refl _)
      | (with_reducible exact LeO.none _)
      | (with_reducible refine LeO.ite ?_ ?_)
      | (with_reducible refine LeO.bind ?_ (fun _ => ?_))
      | exact ih0 _ _ _
      | exact LeO.none _
      | refine LeO.ite ?_ ?_
      | refine LeO.bind ?_ (fun _ => ?_)
set_option maxHeartbeats 8000000 in
set_option maxRecDepth 100000 in
theorem fullerref10_In.calls (k : Nat) (A0 : Option Addr) (c0 : Nat) (l0 : List Int) (a1 : Int) (r : Bool) (w : World) (hr0 : Kd.C (Kd.int .i64) w A0 l0.length l0) (hc0 : l0.length ≤ c0) (h : fullerref10_In.f k l0 a1 = some r) :
    Calls Try.prog 24 #[.slice A0 l0.length c0, .int .i64 a1] w fun e w' => e = .returned (.bool r) ∧ Drawn0 w w' := by
  have HR0 := Aside0.mk hr0
  have HC0 := Aside0.mk hc0
  clear hr0 hc0
  have H : (fullerref10_In.l0 k l0 a1 0) = some r := h
  clear h
  have H' := Aside0.mk H
  clear H
  go_enter Try.func24, Try.ntmps24
  go_wp2
  go_loopg [5] k (fun kq v5 w' => ∃ (x5_1 : Int), v5 = .int .i64 x5_1 ∧ Aside0 (fullerref10_In.l0 kq l0 a1 x5_1 = some r) ∧ Aside0 (kq ≤ k) ∧ Drawn0 w w')
  case atStart => exact ⟨(0), (by first | rfl | (simp; done) | (simp [*]; done)), H', ⟨Nat.le_refl _⟩, by repeat (first | exact Drawn0.refl _ | apply Drawn0.step)⟩
  case round =>
    clear H'
    try clear c2
    try clear p2
    obtain ⟨x5_1, rfl, HA, HK1, ⟨m1, rfl⟩⟩ := hrel
    cases gk with
    | zero => exact absurd HA.out (by simp [fullerref10_In.l0])
    | succ k1 =>
      have H := HA.out
      clear HA
      simp only [fullerref10_In.l0] at H
      by_cases c3 : x5_1 < (l0.length : Int)
      · rw [if_pos c3] at H
        have c3b0 : decide (x5_1 < (l0.length : Int)) = true := decide_eq_true c3
        clear c3
        by_cases c4 : 0 ≤ x5_1
        · rw [if_pos c4] at H
          have c4b0 : decide (0 ≤ x5_1) = true := decide_eq_true c4
          clear c4
          by_cases c5 : (rd l0 x5_1) = a1
          · rw [if_pos c5] at H
            have c5b0 : ((rd l0 x5_1) == a1) = true := beq_iff_eq.mpr c5
            have c5b1 : ((rd l0 x5_1) != a1) = false := bne_eq_false_iff_eq.mpr c5
            clear c5
            obtain rfl := Option.some.inj H
            have p355 : 0 ≤ (x5_1 : Int) := of_decide_eq_true (by first | (with_reducible assumption) | assumption)
            have q355 : x5_1 < (l0.length : Int) := of_decide_eq_true (by first | (with_reducible assumption) | assumption)
            obtain ⟨ad355, e355, hx355_0⟩ := Kd.at_int HR0.out x5_1 p355 q355
            cases e355
            replace p355 := eq_true p355
            replace q355 := eq_true q355
            go_wp2
            go_ret
            exact ⟨by first | rfl | (simp; done) | (simp [*]; done), by repeat (first | exact Drawn0.refl _ | apply Drawn0.step)⟩
          · rw [if_neg c5] at H
            have c5b0 : ((rd l0 x5_1) == a1) = false := beq_eq_false_iff_ne.mpr c5
            have c5b1 : ((rd l0 x5_1) != a1) = true := bne_iff_ne.mpr c5
            have H' := Aside0.mk H
            clear H
            have p355 : 0 ≤ (x5_1 : Int) := of_decide_eq_true (by first | (with_reducible assumption) | assumption)
            have q355 : x5_1 < (l0.length : Int) := of_decide_eq_true (by first | (with_reducible assumption) | assumption)
            obtain ⟨ad355, e355, hx355_0⟩ := Kd.at_int HR0.out x5_1 p355 q355
            cases e355
            replace p355 := eq_true p355
            replace q355 := eq_true q355
            go_wp2
            go_roundg k1
            case measure => have := HK1.out; omega
            case rel => exact ⟨(wrap64 (x5_1 + 1)), (by first | rfl | (simp; done) | (simp [*]; done)), H', ⟨by have := HK1.out; omega⟩, by repeat (first | exact Drawn0.refl _ | apply Drawn0.step)⟩
        · rw [if_neg c4] at H
          exact absurd H (by simp)
      · rw [if_neg c3] at H
        have c3b0 : decide (x5_1 < (l0.length : Int)) = false := decide_eq_false c3
        clear c3
        obtain rfl := Option.some.inj H
        go_wp2
        go_ret
        exact ⟨by first | rfl | (simp; done) | (simp [*]; done), by repeat (first | exact Drawn0.refl _ | apply Drawn0.step)⟩

/-! ### fullerref10_Live: function 23 -/
mutual
def fullerref10_Live.l0 : Nat → List (S35) → List Int → Int → Option (List Int)
 | 0, _, _, _ => none
 | k + 1, x0, x4, x5 => if x5 ≥ 0 then ((fullerref10_In.f k x4 x5).bind fun t360 => (if t360 = true then (if 0 ≤ x5 then (if x5 < (x0.length : Int) then (if x4.length + ((rd_T35 x0 x5).f1).length < 17592186044416 then (fullerref10_Live.l0 k x0 (x4 ++ ((rd_T35 x0 x5).f1)) (wrap64 (x5 - 1))) else (none)) else (none)) else (none)) else (fullerref10_Live.l0 k x0 x4 (wrap64 (x5 - 1))))) else (fullerref10_Live.l1 k x0 x4 ([] : List Int) 0)
def fullerref10_Live.l1 : Nat → List (S35) → List Int → List Int → Int → Option (List Int)
 | 0, _, _, _, _ => none
 | k + 1, x0, x4, x6, x7 => if x7 < (x0.length : Int) then ((fullerref10_In.f k x4 x7).bind fun t365 => (if t365 = true then (if x6.length < 17592186044416 then (fullerref10_Live.l1 k x0 x4 (x6 ++ [x7]) (wrap64 (x7 + 1))) else (none)) else (fullerref10_Live.l1 k x0 x4 x6 (wrap64 (x7 + 1))))) else (some x6)
end
def fullerref10_Live.f (k : Nat) (l0 : List (S35)) : Option (List Int) := (fullerref10_Check.f k l0).bind fun t356 => (if t356 = true then (fullerref10_Live.l0 k l0 (([wrap64 ((l0.length : Int) - 1)] : List Int)) (wrap64 ((l0.length : Int) - 1))) else (some ([] : List Int)))
theorem fullerref10_Live.mono_l : ∀ k, (∀ y0 y1 y2, LeO (fullerref10_Live.l0 k y0 y1 y2) (fullerref10_Live.l0 (k + 1) y0 y1 y2)) ∧ (∀ y0 y1 y2 y3, LeO (fullerref10_Live.l1 k y0 y1 y2 y3) (fullerref10_Live.l1 (k + 1) y0 y1 y2 y3))
 | 0 => ⟨fun _ _ _ r h => by simp [fullerref10_Live.l0] at h, fun _ _ _ _ r h => by simp [fullerref10_Live.l1] at h⟩
 | k + 1 => by
  obtain ⟨ih0, ih1⟩ := fullerref10_Live.mono_l k
  refine ⟨?_, ?_⟩
  ·intro y0 y1 y2
   unfold fullerref10_Live.l0
   repeat' first
   | (with_reducible exact ih0 _ _ _)
   | (with_reducible exact ih1 _ _ _ _)
   | (with_reducible exact fullerref10_Check.mono _ _)
   | (with_reducible exact fullerref10_In.mono _ _ _)
   | (with_reducible exact LeO.refl _)
   | (with_reducible exact LeO.none _)
   | (with_reducible refine LeO.ite ?_ ?_)
   | (with_reducible refine LeO.bind ?_ (fun _ => ?_))
   | exact ih0 _ _ _
   | exact ih1 _ _ _ _
   | exact fullerref10_Check.mono _ _
   | exact fullerref10_In.mono _ _ _
   | exact LeO.none _
   | refine LeO.ite ?_ ?_
   | refine LeO.bind ?_ (fun _ => ?_)
  ·intro y0 y1 y2 y3
   unfold fullerref10_Live.l1
   repeat' first
   | (with_reducible exact ih0 _ _ _)
   | (with_reducible exact ih1 _ _ _ _)
   | (with_reducible exact fullerref10_Check.mono _ _)
   | (with_reducible exact fullerref10_In.mono _ _ _)
   | (with_reducible exact LeO.refl _)
   | (with_reducible exact LeO.none _)
   | (with_reducible refine LeO.ite ?_ ?_)
   | (with_reducible refine LeO.bind ?_ (fun _ => ?_))
   | exact ih0 _ _ _
   | exact ih1 _ _ _ _
   | exact fullerref10_Check.mono _ _
   | exact fullerref10_In.mono _ _ _
   | exact LeO.none _
   | refine LeO.ite ?_ ?_
   | refine LeO.bind ?_ (fun _ => ?_)
theorem fullerref10_Live.mono : ∀ a0 k, LeO (fullerref10_Live.f k a0) (fullerref10_Live.f (k + 1) a0) := by
 intro a0 k
 obtain ⟨ih0, ih1⟩ := fullerref10_Live.mono_l k
 unfold fullerref10_Live.f
 repeat' first
   | (with_reducible exact ih0 _ _ _)
   | (with_reducible exact ih1 _ _ _ _)
   | (with_reducible exact fullerref10_Check.mono _ _)
   | (with_reducible exact fullerref10_In.mono _ _ _)
   | (with_reducible exact LeO.refl _)
   | (with_reducible exact LeO.none _)
   | (with_reducible refine LeO.ite ?_ ?_)
   | (with_reducible refine LeO.bind ?_ (fun _ => ?_))
   | exact ih0 _ _ _
   | exact ih1 _ _ _ _
   | exact fullerref10_Check.mono _ _
   | exact fullerref10_In.mono _ _ _
   | exact LeO.none _
   | refine LeO.ite ?_ ?_
   | refine LeO.bind ?_ (fun _ => ?_)
set_option maxHeartbeats 8000000 in
set_option maxRecDepth 100000 in
theorem fullerref10_Live.calls (k : Nat) (A0 : Option Addr) (c0 : Nat) (l0 : List (S35)) (r : List Int) (w : World) (hr0 : Kd.C k35 w A0 l0.length l0) (hc0 : l0.length ≤ c0) (h : fullerref10_Live.f k l0 = some r) :
  Calls Try.prog 23 #[.slice A0 l0.length c0] w fun e w' => ∃ v0_ : Value, e = .returned (v0_) ∧ Kd.R (Kd.int .i64) 3 w' w.heap.size (fun _ => True) v0_ r ∧ Below w.heap.size w w' := by
 have HR0 := Aside0.mk hr0
 have HC0 := Aside0.mk hc0
 clear hr0 hc0
 have HB := Aside0.mk (Below.refl w.heap.size w)
 have H : ((fullerref10_Check.f k l0).bind fun t356 => (if t356 = true then (fullerref10_Live.l0 k l0 (([wrap64 ((l0.length : Int) - 1)] : List Int)) (wrap64 ((l0.length : Int) - 1))) else (some ([] : List Int)))) = some r := h
 clear h
 replace H := Option.bind_eq_some_iff.mp H
 obtain ⟨t356, A20, H⟩ := H
 replace H : (if t356 = true then (fullerref10_Live.l0 k l0 (([wrap64 ((l0.length : Int) - 1)] : List Int)) (wrap64 ((l0.length : Int) - 1))) else (some ([] : List Int))) = some r := H
 have A2 := Aside0.mk A20
 clear A20
 by_cases c3 : t356 = true
 ·subst c3
  have H1 : (fullerref10_Live.l0 k l0 (([wrap64 ((l0.length : Int) - 1)] : List Int)) (wrap64 ((l0.length : Int) - 1))) = some r := by rw [if_pos rfl] at H; exact H
  clear H
  have H := H1
  clear H1
  obtain ⟨y357, hy357⟩ : ∃ y_ : List Int, y_ = (([wrap64 ((l0.length : Int) - 1)] : List Int)) := ⟨_, rfl⟩
  replace H : (fullerref10_Live.l0 k l0 y357 (wrap64 ((l0.length : Int) - 1))) = some r := by first | (rw [hy357]; with_reducible exact H) | (have H2_ := (Option.bind_some _ _).symm.trans H; rw [hy357]; with_reducible exact H2_) | (have H2_ := (Option.bind_some _ _).symm.trans H; with_reducible exact H2_) | with_reducible exact H | (rw [hy357]; exact H) | exact H
  have Ny357 := Aside0.mk hy357
  clear hy357
  have H' := Aside0.mk H
  clear H
  go_enter Try.func23, Try.ntmps23
  go_wp2_with (first | ((with_reducible refine gate_callee (f := 14) rfl ?_); refine gL_ (some 9) Try.func14 #[.slice A0 l0.length c0] ?_; (with_reducible refine (fullerref10_Check.calls k _ _ l0 true _ ?side1 ?side2 A2.out).mono ?_); (case side1 => exact mvC_ (HR0.out)); (case side2 => exact HC0.out); rintro e w4 ⟨rfl, hb⟩; refine ⟨_, rfl, ?_⟩; replace HB := Aside0.mk (below_step (bq0_ HB.out) hb); (try clear hb)) | ((with_reducible refine gate_dst (N := 15) rfl ?_); refine Kd.R_lit (Kd.int .i64) _ 3 ?hg (N := 15) ?hd (xs := ([wrap64 ((l0.length : Int) - 1)] : List Int)) (inner := [.int .i64 (wrap64 ((l0.length : Int) - 1))]) (ok := fun _ => True) (okp := fun _ => True) ?hr ?hp (fun _ hk => hk) trivial (Below.refl _ _) (Nat.le_refl _) (by simp) ?_; (case hd => rfl); (case hg => rfl); (case hr => first | (go_simp; done) | (go_simp; rfl)); (case hp => exact (Reps.one (show Kd.M (Kd.int .i64) _ _ _ (wrap64 ((l0.length : Int) - 1)) [.int .i64 (wrap64 ((l0.length : Int) - 1))] from rfl) (Reps.none _ _))); intro v358 w5 ho6 hb hg_ hnew_; clear hg_ hnew_; (first | rw [← Ny357.out] at ho6 | (simp only [Int.reduceToNat] at ho6; rw [← Ny357.out] at ho6)); have HO359 := Aside0.mk (Kd.R_lower ho6 (below_size (bq0_ HB.out))); replace HB := Aside0.mk (below_step (bq0_ HB.out) hb); clear hb ho6))
  go_loopg [4, 5] k (fun kq v4 v5 w' => ∃ (x4_1 : List Int) (x5_1 : Int), v5 = .int .i64 x5_1 ∧ Aside0 (fullerref10_Live.l0 kq l0 x4_1 x5_1 = some r) ∧ Aside0 (kq ≤ k) ∧ Aside0 (Kd.R (Kd.int .i64) 3 w' w.heap.size (fun _ => True) v4 x4_1) ∧ Aside0 (Below w.heap.size w w'))
  case atStart => exact ⟨(y357), (wrap64 ((l0.length : Int) - 1)), (by first | rfl | (simp; done) | (simp [*]; done)), H', ⟨Nat.le_refl _⟩, ⟨mvR_ HO359.out⟩, ⟨bq0_ HB.out⟩⟩
  case round =>
   clear H'
   try clear c1
   try clear c2
   try clear p2
   try clear c3
   try clear p6
   obtain ⟨x4_1, x5_1, rfl, HA, HK1, HO_4, HB⟩ := hrel
   cases gk with
   | zero => exact absurd HA.out (by simp [fullerref10_Live.l0])
   | succ k1 =>
    have H := HA.out
    clear HA
    simp only [fullerref10_Live.l0] at H
    by_cases c7 : x5_1 ≥ 0
    ·rw [if_pos c7] at H
     have c7b0 : decide (0 ≤ x5_1) = true := decide_eq_true c7
     clear c7
     replace H := Option.bind_eq_some_iff.mp H
     obtain ⟨t360, A80, H⟩ := H
     replace H : (if t360 = true then (if 0 ≤ x5_1 then (if x5_1 < (l0.length : Int) then (if x4_1.length + ((rd_T35 l0 x5_1).f1).length < 17592186044416 then (fullerref10_Live.l0 k1 l0 (x4_1 ++ ((rd_T35 l0 x5_1).f1)) (wrap64 (x5_1 - 1))) else (none)) else (none)) else (none)) else (fullerref10_Live.l0 k1 l0 x4_1 (wrap64 (x5_1 - 1)))) = some r := H
     have A8 := Aside0.mk A80
     clear A80
     by_cases c9 : t360 = true
     ·subst c9
      have H1 : (if 0 ≤ x5_1 then (if x5_1 < (l0.length : Int) then (if x4_1.length + ((rd_T35 l0 x5_1).f1).length < 17592186044416 then (fullerref10_Live.l0 k1 l0 (x4_1 ++ ((rd_T35 l0 x5_1).f1)) (wrap64 (x5_1 - 1))) else (none)) else (none)) else (none)) = some r := by rw [if_pos rfl] at H; exact H
      clear H
      have H := H1
      clear H1
      by_cases c10 : 0 ≤ x5_1
      ·rw [if_pos c10] at H
       have c10b0 : decide (0 ≤ x5_1) = true := decide_eq_true c10
       clear c10
       by_cases c11 : x5_1 < (l0.length : Int)
       ·rw [if_pos c11] at H
        have c11b0 : decide (x5_1 < (l0.length : Int)) = true := decide_eq_true c11
        clear c11
        by_cases c12 : x4_1.length + ((rd_T35 l0 x5_1).f1).length < 17592186044416
        ·rw [if_pos c12] at H
         have LMc12 := Aside0.mk c12
         clear c12
         obtain ⟨y362, hy362⟩ : ∃ y_ : List Int, y_ = (x4_1 ++ ((rd_T35 l0 x5_1).f1)) := ⟨_, rfl⟩
         replace H : (fullerref10_Live.l0 k1 l0 y362 (wrap64 (x5_1 - 1))) = some r := by first | (rw [hy362]; with_reducible exact H) | (have H2_ := (Option.bind_some _ _).symm.trans H; rw [hy362]; with_reducible exact H2_) | (have H2_ := (Option.bind_some _ _).symm.trans H; with_reducible exact H2_) | with_reducible exact H | (rw [hy362]; exact H) | exact H
         have Ny362 := Aside0.mk hy362
         clear hy362
         have H' := Aside0.mk H
         clear H
         obtain ⟨Ao13, co13, eo13⟩ := Kd.R_slice HO_4.out
         subst eo13
         go_wp2_with (first | ((with_reducible refine gate_callee (f := 24) rfl ?_); refine gL_ (some 25) Try.func24 #[.slice Ao13 x4_1.length co13, .int .i64 x5_1] ?_; (with_reducible refine (fullerref10_In.calls k1 _ _ x4_1 x5_1 true _ ?side1 ?side2 A8.out).mono ?_); (case side1 => exact mvC_ ((Kd.R_reads' HO_4.out).2.2)); (case side2 => exact (Kd.R_reads' HO_4.out).2.1); rintro e w' ⟨rfl, ⟨nd, rfl⟩⟩; refine ⟨_, rfl, ?_⟩; have p361 : 0 ≤ (x5_1 : Int) := od_; have q361 : x5_1 < (l0.length : Int) := od_; obtain ⟨ad361, A361_1, c361_1, A361_2, c361_2, e361, hx361_0, hx361_1, hx361_2, hl361_1, hi361_1, hl361_2, hi361_2⟩ := at_T35 HR0.out x5_1 p361 q361; cases e361; replace hx361_0 := (HB.out.cell (World.block_lt_of_cell? w _ hx361_0)).trans hx361_0; replace hx361_1 := (HB.out.cell (World.block_lt_of_cell? w _ hx361_1)).trans hx361_1; replace hx361_2 := (HB.out.cell (World.block_lt_of_cell? w _ hx361_2)).trans hx361_2; have HR361_1 := Aside0.mk hi361_1; have HC361_1 := Aside0.mk hl361_1; clear hi361_1 hl361_1; have HR361_2 := Aside0.mk hi361_2; have HC361_2 := Aside0.mk hl361_2; clear hi361_2 hl361_2; replace p361 := eq_true p361; replace q361 := eq_true q361) | ((with_reducible refine gate_builtin (b := .append) (xs := #[.tmp 26, .tmp 31]) rfl ?_); at_builtin; refine Kd.R_append_rows (Kd.int .i64) (w0 := w) w.heap.size rfl (.tmp 26) (.tmp 31) 25 3 (.int .i64 0) 8 rfl Try.underlying25 info3 rfl (by decide) (by omega) (.slice Ao13 x4_1.length co13) x4_1 ((rd_T35 l0 x5_1).f1) _ _ _ (fun _ => True) (fun _ => False) rfl rfl ?aO ?aR (fun _ _ h => h) (fun _ h => h.elim) ?aF ?aB ?aS ?aL ?_; (case aR => repeat (first | exact (Kd.C_below HR361_1.out (bq0_ HB.out)) | (with_reducible refine Kd.C_alloc ?_ _) | (with_reducible refine Kd.C_drewN ?_ _) | (with_reducible refine Kd.C_drew ?_))); (case aB => exact (bq0_ HB.out)); (case aF => exact (fun _ _ => trivial)); (case aO => exact (mvR_ HO_4.out)); (case aS => exact (below_size (bq0_ HB.out))); (case aL => have := LMc12.out; omega); intro v363 w14 ho hb hg hat; rw [← Ny362.out] at ho; have HO364 := Aside0.mk (ho); replace HB := Aside0.mk (hb); clear HO_4 ho hb hg hat))
         go_roundg k1
         case measure => have := HK1.out; omega
         case rel => exact ⟨(y362), (wrap64 (x5_1 - 1)), (by first | rfl | (simp; done) | (simp [*]; done)), H', ⟨by have := HK1.out; omega⟩, ⟨mvR_ HO364.out⟩, ⟨bq0_ HB.out⟩⟩
        ·rw [if_neg c12] at H
         exact absurd H (by simp)
       ·rw [if_neg c11] at H
        exact absurd H (by simp)
      ·rw [if_neg c10] at H
       exact absurd H (by simp)
     ·replace c9 := Bool.eq_false_iff.mpr c9
      subst c9
      have H1 : (fullerref10_Live.l0 k1 l0 x4_1 (wrap64 (x5_1 - 1))) = some r := by rw [if_neg (show ¬ (false = true) by decide)] at H; exact H
      clear H
      have H := H1
      clear H1
      have H' := Aside0.mk H
      clear H
      obtain ⟨Ao15, co15, eo15⟩ := Kd.R_slice HO_4.out
      subst eo15
      go_wp2_with (first | ((with_reducible refine gate_callee (f := 24) rfl ?_); refine gL_ (some 25) Try.func24 #[.slice Ao15 x4_1.length co15, .int .i64 x5_1] ?_; (with_reducible refine (fullerref10_In.calls k1 _ _ x4_1 x5_1 false _ ?side1 ?side2 A8.out).mono ?_); (case side1 => exact mvC_ ((Kd.R_reads' HO_4.out).2.2)); (case side2 => exact (Kd.R_reads' HO_4.out).2.1); rintro e w' ⟨rfl, ⟨nd, rfl⟩⟩; refine ⟨_, rfl, ?_⟩))
      go_roundg k1
      case measure => have := HK1.out; omega
      case rel => exact ⟨(x4_1), (wrap64 (x5_1 - 1)), (by first | rfl | (simp; done) | (simp [*]; done)), H', ⟨by have := HK1.out; omega⟩, ⟨mvR_ HO_4.out⟩, ⟨bq0_ HB.out⟩⟩
    ·rw [if_neg c7] at H
     have c7b0 : decide (0 ≤ x5_1) = false := decide_eq_false c7
     clear c7
     have H' := Aside0.mk H
     clear H
     go_wp2
     go_loopg [6, 7] k1 (fun kq v6 v7 w' => ∃ (x6_2 : List Int) (x7_2 : Int), v7 = .int .i64 x7_2 ∧ Aside0 (fullerref10_Live.l1 kq l0 x4_1 x6_2 x7_2 = some r) ∧ Aside0 (kq ≤ k1) ∧ Aside0 (Kd.R (Kd.int .i64) 3 w' w.heap.size (fun k_ => some k_ ≠ (v6 : Value).ownBlock) u4 x4_1) ∧ Aside0 (Kd.R (Kd.int .i64) 3 w' w.heap.size (fun k_ => some k_ ≠ (u4 : Value).ownBlock) v6 x6_2) ∧ Aside0 (Below w.heap.size w w'))
     case atStart => exact ⟨(([] : List Int)), (0), (by first | rfl | (simp; done) | (simp [*]; done)), H', ⟨Nat.le_refl _⟩, ⟨by (with_reducible repeat (first | apply Kd.R_alloc | apply Kd.R_drewN | apply Kd.R_drew)); exact Kd.R_mono HO_4.out (fun _ hk => (by simp [Value.ownBlock]))⟩, ⟨by first | exact Kd.R_nil _ _ _ _ _ | exact Kd.N_nil _ _ _ _ _ | exact Kd.V_nil _ _ _ _ _ | exact Kd.Q_nil _ _ _ _ _ | exact Kd.S_nil _ _ _ _ _⟩, ⟨bq0_ HB.out⟩⟩
     case round =>
      clear H'
      try clear c1
      try clear c2
      try clear p2
      try clear c3
      try clear p3
      try clear q3
      try clear hx3
      try clear p6
      try clear c7
      try clear c7b0
      try clear c9
      try clear c10
      try clear c10b0
      try clear c11
      try clear c11b0
      try clear c12
      try clear c14
      try clear hx361_0
      try clear hx361_1
      try clear hx361_2
      try clear p2
      try clear p361
      try clear p6
      try clear q361
      obtain ⟨x6_2, x7_2, rfl, HA, HK2, HO_4, HO_6, HB⟩ := hrel
      cases gk with
      | zero => exact absurd HA.out (by simp [fullerref10_Live.l1])
      | succ k2 =>
       have H := HA.out
       clear HA
       simp only [fullerref10_Live.l1] at H
       by_cases c16 : x7_2 < (l0.length : Int)
       ·rw [if_pos c16] at H
        have c16b0 : decide (x7_2 < (l0.length : Int)) = true := decide_eq_true c16
        clear c16
        replace H := Option.bind_eq_some_iff.mp H
        obtain ⟨t365, A170, H⟩ := H
        replace H : (if t365 = true then (if x6_2.length < 17592186044416 then (fullerref10_Live.l1 k2 l0 x4_1 (x6_2 ++ [x7_2]) (wrap64 (x7_2 + 1))) else (none)) else (fullerref10_Live.l1 k2 l0 x4_1 x6_2 (wrap64 (x7_2 + 1)))) = some r := H
        have A17 := Aside0.mk A170
        clear A170
        by_cases c18 : t365 = true
        ·subst c18
         have H1 : (if x6_2.length < 17592186044416 then (fullerref10_Live.l1 k2 l0 x4_1 (x6_2 ++ [x7_2]) (wrap64 (x7_2 + 1))) else (none)) = some r := by rw [if_pos rfl] at H; exact H
         clear H
         have H := H1
         clear H1
         by_cases c19 : x6_2.length < 17592186044416
         ·rw [if_pos c19] at H
          have LMc19 := Aside0.mk c19
          clear c19
          obtain ⟨y366, hy366⟩ : ∃ y_ : List Int, y_ = (x6_2 ++ [x7_2]) := ⟨_, rfl⟩
          replace H : (fullerref10_Live.l1 k2 l0 x4_1 y366 (wrap64 (x7_2 + 1))) = some r := by first | (rw [hy366]; with_reducible exact H) | (have H2_ := (Option.bind_some _ _).symm.trans H; rw [hy366]; with_reducible exact H2_) | (have H2_ := (Option.bind_some _ _).symm.trans H; with_reducible exact H2_) | with_reducible exact H | (rw [hy366]; exact H) | exact H
          have Ny366 := Aside0.mk hy366
          clear hy366
          have H' := Aside0.mk H
          clear H
          obtain ⟨Ao20, co20, eo20⟩ := Kd.R_slice HO_4.out
          subst eo20
          go_wp2_with (first | ((with_reducible refine gate_callee (f := 24) rfl ?_); refine gL_ (some 41) Try.func24 #[.slice Ao20 x4_1.length co20, .int .i64 x7_2] ?_; (with_reducible refine (fullerref10_In.calls k2 _ _ x4_1 x7_2 true _ ?side1 ?side2 A17.out).mono ?_); (case side1 => exact mvC_ ((Kd.R_reads' HO_4.out).2.2)); (case side2 => exact (Kd.R_reads' HO_4.out).2.1); rintro e w' ⟨rfl, ⟨nd, rfl⟩⟩; refine ⟨_, rfl, ?_⟩) | ((with_reducible refine gate_builtin (b := .append) (xs := #[.tmp 42, .tmp 44]) rfl ?_); at_builtin; refine Kd.R_append (Kd.int .i64) (w0 := w) w.heap.size rfl (.tmp 42) (.tmp 44) 25 3 (.int .i64 0) 8 rfl Try.underlying25 info3 rfl (by decide) (by omega) u6 x6_2 x7_2 [.int .i64 x7_2] (fun k_ => some k_ ≠ (.slice Ao20 x4_1.length co20 : Value).ownBlock) (fun _ => False) rfl rfl ?aP (fun _ hk => hk.elim) ?aF ?aO ?aB ?aS ?aL ?_; (case aP => exact rfl); (case aB => exact (bq0_ HB.out)); (case aF => exact (fun k_ hk => Kd.fresh' (Kd.R_lt (mvR_ HO_4.out)) k_ hk)); (case aO => exact (mvR_ HO_6.out)); (case aS => exact (below_size (bq0_ HB.out))); (case aL => have := LMc19.out; omega); intro v367 w21 ho hb hg hat; rw [← Ny366.out] at ho; have HO368 := Aside0.mk (ho); replace HO_4 := Aside0.mk (Kd.R_after (ok := (fun _ => True)) (by (with_reducible repeat (first | apply Kd.R_alloc | apply Kd.R_drewN | apply Kd.R_drew)); exact Kd.R_mono HO_4.out (fun _ hk => ⟨trivial, hk⟩)) hg hat); replace HB := Aside0.mk (hb); clear HO_6 ho hb hg hat))
          go_roundg k2
          case measure => have := HK1.out; have := HK2.out; omega
          case rel => exact ⟨(y366), (wrap64 (x7_2 + 1)), (by first | rfl | (simp; done) | (simp [*]; done)), H', ⟨by have := HK1.out; have := HK2.out; omega⟩, ⟨by (with_reducible repeat (first | apply Kd.R_alloc | apply Kd.R_drewN | apply Kd.R_drew)); exact Kd.R_mono HO_4.out (fun _ hk => hk.2)⟩, ⟨mvR_ HO368.out⟩, ⟨bq0_ HB.out⟩⟩
         ·rw [if_neg c19] at H
          exact absurd H (by simp)
        ·replace c18 := Bool.eq_false_iff.mpr c18
         subst c18
         have H1 : (fullerref10_Live.l1 k2 l0 x4_1 x6_2 (wrap64 (x7_2 + 1))) = some r := by rw [if_neg (show ¬ (false = true) by decide)] at H; exact H
         clear H
         have H := H1
         clear H1
         have H' := Aside0.mk H
         clear H
         obtain ⟨Ao22, co22, eo22⟩ := Kd.R_slice HO_4.out
         subst eo22
         go_wp2_with (first | ((with_reducible refine gate_callee (f := 24) rfl ?_); refine gL_ (some 41) Try.func24 #[.slice Ao22 x4_1.length co22, .int .i64 x7_2] ?_; (with_reducible refine (fullerref10_In.calls k2 _ _ x4_1 x7_2 false _ ?side1 ?side2 A17.out).mono ?_); (case side1 => exact mvC_ ((Kd.R_reads' HO_4.out).2.2)); (case side2 => exact (Kd.R_reads' HO_4.out).2.1); rintro e w' ⟨rfl, ⟨nd, rfl⟩⟩; refine ⟨_, rfl, ?_⟩))
         go_roundg k2
         case measure => have := HK1.out; have := HK2.out; omega
         case rel => exact ⟨(x6_2), (wrap64 (x7_2 + 1)), (by first | rfl | (simp; done) | (simp [*]; done)), H', ⟨by have := HK1.out; have := HK2.out; omega⟩, ⟨mvR_ HO_4.out⟩, ⟨mvR_ HO_6.out⟩, ⟨bq0_ HB.out⟩⟩
       ·rw [if_neg c16] at H
        have c16b0 : decide (x7_2 < (l0.length : Int)) = false := decide_eq_false c16
        clear c16
        obtain rfl := Option.some.inj H
        go_wp2
        go_ret
        exact ⟨_, by first | rfl | (simp <;> rfl) | (simp [*] <;> rfl), by (with_reducible repeat (first | apply Kd.R_alloc | apply Kd.R_drewN | apply Kd.R_drew)); exact Kd.R_mono HO_6.out (fun _ hk => trivial), bq0_ HB.out⟩
 ·replace c3 := Bool.eq_false_iff.mpr c3
  subst c3
  have H1 : (some ([] : List Int)) = some r := by rw [if_neg (show ¬ (false = true) by decide)] at H; exact H
  clear H
  have H := H1
  clear H1
  obtain rfl := Option.some.inj H
  go_enter Try.func23, Try.ntmps23
  go_wp2_with (first | ((with_reducible refine gate_callee (f := 14) rfl ?_); refine gL_ (some 9) Try.func14 #[.slice A0 l0.length c0] ?_; (with_reducible refine (fullerref10_Check.calls k _ _ l0 false _ ?side1 ?side2 A2.out).mono ?_); (case side1 => exact mvC_ (HR0.out)); (case side2 => exact HC0.out); rintro e w23 ⟨rfl, hb⟩; refine ⟨_, rfl, ?_⟩; replace HB := Aside0.mk (below_step (bq0_ HB.out) hb); (try clear hb)))
  go_ret
  exact ⟨_, by first | rfl | (simp <;> rfl) | (simp [*] <;> rfl), by first | exact Kd.R_nil _ _ _ _ _ | exact Kd.N_nil _ _ _ _ _ | exact Kd.V_nil _ _ _ _ _ | exact Kd.Q_nil _ _ _ _ _ | exact Kd.S_nil _ _ _ _ _, bq0_ HB.out⟩

end Go.Proofs.Ytklnbfdoklcmfaa.A
