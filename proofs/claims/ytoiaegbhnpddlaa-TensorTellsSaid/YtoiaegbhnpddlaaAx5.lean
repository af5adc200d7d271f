/- Lean functions that answer as the Go functions do, and the proofs that they do; no conditions. Written by this session's own driver: a scratch copy of the kit's print with the session's additions (wip/xprint). -/
import Derived.Test.YtoiaegbhnpddlaaAx0
import Derived.Test.YtoiaegbhnpddlaaAx1
namespace Go.Proofs.Ytoiaegbhnpddlaa.A
open Go.RowKit Go.Proofs.YtoiaegbhnpddlaaW.PrintWords Go.Proofs.YtoiaegbhnpddlaaW.PrintLast Go.Proofs.YtoiaegbhnpddlaaW.PrintMore
attribute [local go_sem] max2_int min2_int max_two min_two max_three min_three max_four min_four   -- for this text's walks alone
set_option linter.unusedVariables false
set_option linter.unusedSimpArgs false

def L24_0 : Array Bool := #[false, false, false, false, false, false, false, false, false, false, false, false, false, false, false, false, false]
def L24_1 : Array Bool := #[true, false, false, false, false, false, false, false, false, false, false, false, false, false, false, false, false]
def L24_2 : Array Bool := #[true, true, false, false, false, false, false, false, false, false, false, false, false, false, false, false, false]
def L24_3 : Array Bool := #[true, true, true, false, false, false, false, false, false, false, false, false, false, false, false, false, false]
def L24_4 : Array Bool := #[true, true, true, true, false, false, false, false, false, false, false, false, false, false, false, false, false]
def L24_5 : Array Bool := #[true, true, true, true, true, false, false, false, false, false, false, false, false, false, false, false, false]
def L24_6 : Array Bool := #[true, true, true, true, true, true, false, false, false, false, false, false, false, false, false, false, false]
def L24_7 : Array Bool := #[true, true, true, true, true, true, false, false, true, false, false, false, false, false, false, false, false]
def L24_8 : Array Bool := #[true, true, true, true, true, true, false, false, true, true, false, false, false, false, false, false, false]
def L24_9 : Array Bool := #[true, true, true, true, true, true, false, false, true, true, true, false, false, false, false, false, false]
def L24_10 : Array Bool := #[true, true, true, true, true, true, false, false, true, true, true, true, false, false, false, false, false]
def L24_11 : Array Bool := #[true, true, true, true, true, true, true, false, true, true, true, true, false, false, false, false, false]
def L24_12 : Array Bool := #[true, true, true, true, true, true, true, true, true, true, true, true, false, false, false, false, false]
def L24_13 : Array Bool := #[true, true, true, true, true, true, true, true, true, true, true, true, true, false, false, false, false]
def L24_14 : Array Bool := #[true, true, true, true, true, true, true, true, true, true, true, true, true, true, false, false, false]
def L24_15 : Array Bool := #[true, true, true, true, true, true, true, true, true, true, true, true, true, true, true, false, false]
def L24_16 : Array Bool := #[true, true, true, true, true, true, true, true, true, true, true, true, true, true, true, true, false]
def L24_17 : Array Bool := #[true, true, true, true, true, true, true, true, true, true, true, true, true, true, true, true, true]
/-! ### shape_Index: function 24 -/
mutual
def shape_Index.j0 : Nat → List Int → Int → Bool → Option (List Int × Int)
 | 0, _, _, _ => none
 | k + 1, x0, x1, x16 => if x16 = true then (some (([] : List Int), 20)) else (if 0 ≤ (x0.length : Int) then (if ((x0.length : Int) : Int).toNat ≤ 35184372088832 then (shape_Index.l0 k x0 x1 (List.replicate ((x0.length : Int) : Int).toNat 0) (x0.length : Int) 0) else (none)) else (none))
def shape_Index.l0 : Nat → List Int → Int → List Int → Int → Int → Option (List Int × Int)
 | 0, _, _, _, _, _ => none
 | k + 1, x0, x1, x6, x21, x22 => if x22 < x21 then (if 0 ≤ (wrap64 ((wrap64 ((x0.length : Int) - 1)) - x22)) then (if (wrap64 ((wrap64 ((x0.length : Int) - 1)) - x22)) < (x0.length : Int) then (if (rd x0 (wrap64 ((wrap64 ((x0.length : Int) - 1)) - x22))) = 0 then (none) else (if (wrap64 ((wrap64 ((x0.length : Int) - 1)) - x22)) < (x6.length : Int) then (shape_Index.l0 k x0 (wrap64 (Int.tdiv x1 (rd x0 (wrap64 ((wrap64 ((x0.length : Int) - 1)) - x22))))) (x6.set ((wrap64 ((wrap64 ((x0.length : Int) - 1)) - x22)) : Int).toNat (Int.tmod x1 (rd x0 (wrap64 ((wrap64 ((x0.length : Int) - 1)) - x22))))) x21 (wrap64 (x22 + 1))) else (none))) else (none)) else (none)) else (some (x6, 0))
end
def shape_Index.f (k : Nat) (l0 : List Int) (a1 : Int) : Option (List Int × Int) := if a1 < 0 then (shape_Index.j0 k l0 a1 true) else ((shape_Size.f k l0).bind fun t138 => (shape_Index.j0 k l0 a1 (decide (a1 ≥ t138))))
theorem shape_Index.mono_l : ∀ k, (∀ y0 y1 y2, LeO (shape_Index.j0 k y0 y1 y2) (shape_Index.j0 (k + 1) y0 y1 y2)) ∧ (∀ y0 y1 y2 y3 y4, LeO (shape_Index.l0 k y0 y1 y2 y3 y4) (shape_Index.l0 (k + 1) y0 y1 y2 y3 y4))
 | 0 => ⟨fun _ _ _ r h => by simp [shape_Index.j0] at h, fun _ _ _ _ _ r h => by simp [shape_Index.l0] at h⟩
 | k + 1 => by
  obtain ⟨ih0, ih1⟩ := shape_Index.mono_l k
  refine ⟨?_, ?_⟩
  ·intro y0 y1 y2
   unfold shape_Index.j0
   repeat' first
   | (with_reducible exact ih0 _ _ _)
   | (with_reducible exact ih1 _ _ _ _ _)
   | (with_reducible exact shape_Size.mono _ _)
   | (with_reducible exact LeO.refl _)
   | (with_reducible exact LeO.none _)
   | (with_reducible refine LeO.ite ?_ ?_)
   | (with_reducible refine LeO.bind ?_ (fun _ => ?_))
   | exact ih0 _ _ _
   | exact ih1 _ _ _ _ _
   | exact shape_Size.mono _ _
   | exact LeO.none _
   | refine LeO.ite ?_ ?_
   | refine LeO.bind ?_ (fun _ => ?_)
  ·intro y0 y1 y2 y3 y4
   unfold shape_Index.l0
   repeat' first
   | (with_reducible exact ih0 _ _ _)
   | (with_reducible exact ih1 _ _ _ _ _)
   | (with_reducible exact shape_Size.mono _ _)
   | (with_reducible exact LeO.refl _)
   | (with_reducible exact LeO.none _)
   | (with_reducible refine LeO.ite ?_ ?_)
   | (with_reducible refine LeO.bind ?_ (fun _ => ?_))
   | exact ih0 _ _ _
   | exact ih1 _ _ _ _ _
   | exact shape_Size.mono _ _
   | exact LeO.none _
   | refine LeO.ite ?_ ?_
   | refine LeO.bind ?_ (fun _ => ?_)
theorem shape_Index.mono : ∀ a0 a1 k, LeO (shape_Index.f k a0 a1) (shape_Index.f (k + 1) a0 a1) := by
 intro a0 a1 k
 obtain ⟨ih0, ih1⟩ := shape_Index.mono_l k
 unfold shape_Index.f
 repeat' first
   | (with_reducible exact ih0 _ _ _)
   | (with_reducible exact ih1 _ _ _ _ _)
   | (with_reducible exact shape_Size.mono _ _)
   | (with_reducible exact LeO.refl _)
   | (with_reducible exact LeO.none _)
   | (with_reducible refine LeO.ite ?_ ?_)
   | (with_reducible refine LeO.bind ?_ (fun _ => ?_))
   | exact ih0 _ _ _
   | exact ih1 _ _ _ _ _
   | exact shape_Size.mono _ _
   | exact LeO.none _
   | refine LeO.ite ?_ ?_
   | refine LeO.bind ?_ (fun _ => ?_)
def shape_Index.T8 : Bool × List (List Nat × List Nat) := (true, [([], []), ([], []), ([], []), ([], []), ([], []), ([3, 4], [3, 4]), ([5], [5]), ([2, 6], [2, 6]), ([], []), ([], []), ([], []), ([9, 10], [9, 10]), ([11], [11]), ([8, 12], [8, 12]), ([0, 1, 0, 1, 2, 3, 4, 5, 6, 7, 12], [0, 1]), ([14, 7, 0, 1, 2, 3, 4, 5, 6, 7, 12], [7, 14]), ([13, 15, 0, 1, 2, 3, 4, 5, 6, 7, 8, 9, 10, 11, 12, 13, 14, 15], [2, 8, 13])])
def shape_Index.B8 : List Nat := [0, 0, 0, 0, 0, 24, 56, 124, 0, 0, 0, 1536, 3584, 7936, 7935, 24319, 65535]
theorem shape_Index.tab8 : rtab .any (opsOf Try.f24 8) = shape_Index.T8 := by kernel_rfl
theorem shape_Index.bits8 : waitsOk shape_Index.T8.2 shape_Index.B8 = true := by kernel_rfl
set_option maxHeartbeats 8000000 in
set_option maxRecDepth 100000 in
theorem shape_Index.calls (k : Nat) (A0 : Option Addr) (c0 : Nat) (l0 : List Int) (a1 : Int) (r1 : List Int) (r2 : Int) (w : World) (hr0 : Kd.C (Kd.int .i64) w A0 l0.length l0) (hc0 : l0.length ≤ c0) (h : shape_Index.f k l0 a1 = some (r1, r2)) :
  Calls Try.prog 24 #[.slice A0 l0.length c0, .int .i64 a1] w fun e w' => ∃ v0_ : Value, e = .returned (.tuple #[v0_, .int .i64 r2]) ∧ Kd.R (Kd.int .i64) 3 w' w.heap.size (fun _ => True) v0_ r1 ∧ Below w.heap.size w w' := by
 have HR0 := Aside0.mk hr0
 have HC0 := Aside0.mk hc0
 clear hr0 hc0
 have HB := Aside0.mk (Below.refl w.heap.size w)
 have H : (if a1 < 0 then (shape_Index.j0 k l0 a1 true) else ((shape_Size.f k l0).bind fun t138 => (shape_Index.j0 k l0 a1 (decide (a1 ≥ t138))))) = some (r1, r2) := h
 clear h
 have HC3 := Aside0.mk H
 clear H
 go_enter Try.func24, Try.ntmps24
 go_upto_region 1 with (fail)
 go_cut [16] (fun v16 wc => ∃ (kq : Nat) (x16_2 : Bool), v16 = .bool x16_2 ∧ Aside0 (shape_Index.j0 kq l0 a1 x16_2 = some (r1, r2)) ∧ Aside0 (kq ≤ k) ∧ Aside0 (Below w.heap.size w wc))
 case first =>
  have H := HC3.out
  clear HC3
  by_cases c4 : a1 < 0
  ·rw [if_pos c4] at H
   have c4b0 : decide (a1 < 0) = true := decide_eq_true c4
   clear c4
   (first | rw [c4b0] | (simp only [i64_w, i32_w]; rw [c4b0]) | skip)
   have H' := Aside0.mk H
   clear H
   go_wp2
   go_meet
   case rel => exact ⟨_, (true), (by first | rfl | (simp; done) | (simp [*]; done)), H', ⟨by first | omega | exact Nat.le_refl _⟩, ⟨by repeat (first | (with_reducible first | exact HB.out | apply below_alloc | apply pw_below_drewN | apply below_drew1) | exact HB.out)⟩⟩
  ·rw [if_neg c4] at H
   have c4b0 : decide (a1 < 0) = false := decide_eq_false c4
   clear c4
   (first | rw [c4b0] | (simp only [i64_w, i32_w]; rw [c4b0]) | skip)
   replace H := Option.bind_eq_some_iff.mp H
   obtain ⟨t138, A50, H⟩ := H
   replace H : (shape_Index.j0 k l0 a1 (decide (a1 ≥ t138))) = some (r1, r2) := H
   have A5 := Aside0.mk A50
   clear A50
   have H' := Aside0.mk H
   clear H
   go_wp2_with (first | (go_at_call 30; (with_reducible refine (shape_Size.calls k _ _ l0 t138 _ ?side1 ?side2 A5.out).mono ?_); (case side1 => exact mvC_ ((Kd.C_below HR0.out HB.out))); (case side2 => exact HC0.out); rintro e w' ⟨rfl, ⟨nd, rfl⟩⟩))
   go_meet
   case rel => exact ⟨_, (decide (a1 ≥ t138)), (by first | rfl | (simp; done) | (simp [*]; done)), H', ⟨by first | omega | exact Nat.le_refl _⟩, ⟨by repeat (first | (with_reducible first | exact HB.out | apply below_alloc | apply pw_below_drewN | apply below_drew1) | exact HB.out)⟩⟩
 case rest =>
  clear HC3
  try clear c2
  try clear p2
  try clear c4
  try clear c4b0
  obtain ⟨kq, x16_2, rfl, HA, HJ2, HB⟩ := hcut
  cases kq with
  | zero => exact absurd HA.out (by simp [shape_Index.j0])
  | succ kj2 =>
   have H := HA.out
   clear HA
   simp only [shape_Index.j0] at H
   by_cases c6 : x16_2 = true
   ·subst c6
    have H1 : (some (([] : List Int), 20)) = some (r1, r2) := by rw [if_pos rfl] at H; exact H
    clear H
    have H := H1
    clear H1
    simp only [Option.some.injEq, Prod.mk.injEq] at H
    obtain ⟨rfl, rfl⟩ := H
    go_wp2
    go_ret2
    exact ⟨_, by first | rfl | (simp [errW_none, errW_some] <;> rfl) | (simp [*, errW_none, errW_some] <;> rfl), by first | exact Kd.R_nil _ _ _ _ _ | exact Kd.N_nil _ _ _ _ _ | exact Kd.V_nil _ _ _ _ _ | exact Kd.Q_nil _ _ _ _ _ | exact Kd.S_nil _ _ _ _ _, by repeat (first | (with_reducible first | exact HB.out | apply below_alloc | apply pw_below_drewN | apply below_drew1) | exact HB.out)⟩
   ·replace c6 := Bool.eq_false_iff.mpr c6
    subst c6
    have H1 : (if 0 ≤ (l0.length : Int) then (if ((l0.length : Int) : Int).toNat ≤ 35184372088832 then (shape_Index.l0 kj2 l0 a1 (List.replicate ((l0.length : Int) : Int).toNat 0) (l0.length : Int) 0) else (none)) else (none)) = some (r1, r2) := by rw [if_neg (show ¬ (false = true) by decide)] at H; exact H
    clear H
    have H := H1
    clear H1
    by_cases c7 : 0 ≤ (l0.length : Int)
    ·rw [if_pos c7] at H
     have c7b0 := eq_true c7
     have c7b1 : decide (0 ≤ (l0.length : Int)) = true := decide_eq_true c7
     clear c7
     by_cases c8 : ((l0.length : Int) : Int).toNat ≤ 35184372088832
     ·rw [if_pos c8] at H
      have c8b0 := eq_true c8
      have c8b1 : decide (((l0.length : Int) : Int).toNat ≤ 35184372088832) = true := decide_eq_true c8
      clear c8
      obtain ⟨y139, hy139⟩ : ∃ y_ : List Int, y_ = (List.replicate ((l0.length : Int) : Int).toNat 0) := ⟨_, rfl⟩
      replace H : (shape_Index.l0 kj2 l0 a1 y139 (l0.length : Int) 0) = some (r1, r2) := by first | (rw [hy139]; with_reducible exact H) | (have H2_ := (Option.bind_some _ _).symm.trans H; rw [hy139]; with_reducible exact H2_) | (have H2_ := (Option.bind_some _ _).symm.trans H; with_reducible exact H2_) | with_reducible exact H | (rw [hy139]; exact H) | exact H
      have Ny139 := Aside0.mk hy139
      clear hy139
      have H' := Aside0.mk H
      clear H
      go_wp2_with (first | ((with_reducible refine gate_dst (N := 19) rfl ?_); refine Kd.R_make (Kd.int .i64) _ 3 rfl (N := 19) rfl 22 _ _ rfl (l0.length : Int) rfl rfl Try.underlying22 (.int .i64 0) 8 info3 rfl (by decide) (by omega) 0 (ok := fun _ => True) (okp := fun _ => True) rfl (fun _ hk => hk) trivial od_ (Nat.le_trans (Nat.mul_le_mul_right _ (od_ : (l0.length : Int).toNat ≤ 35184372088832)) (by omega)) (Below.refl _ _) (Nat.le_refl _) ?_; intro v140 w9 ho10 hb hg_ hnew_; clear hg_ hnew_; (first | rw [← Ny139.out] at ho10 | (simp only [Int.reduceToNat] at ho10; rw [← Ny139.out] at ho10)); have n0_ := Aside0.mk (Kd.R_lower ho10 (below_size (bq0_ HB.out))); have n1_ := Aside0.mk (below_step (bq0_ HB.out) hb); clear HB; have HO141 := n0_; have HB := n1_; clear n0_ n1_; clear hb ho10))
      go_loopg [1, 22] kj2 (fun kq v1 v22 w' => ∃ (x1_2 : Int) (x6_2 : List Int) (x22_2 : Int), v1 = .int .i64 x1_2 ∧ v22 = .int .i64 x22_2 ∧ Aside0 (shape_Index.l0 kq l0 x1_2 x6_2 (l0.length : Int) x22_2 = some (r1, r2)) ∧ Aside0 (kq ≤ kj2) ∧ Aside0 (Kd.R (Kd.int .i64) 3 w' w.heap.size (fun _ => True) v140 x6_2) ∧ Aside0 (Below w.heap.size w w'))
      case atStart => exact ⟨(a1), (y139), (0), (by first | rfl | (simp; done) | (simp [*]; done)), (by first | rfl | (simp; done) | (simp [*]; done)), H', ⟨Nat.le_refl _⟩, ⟨by (with_reducible repeat (first | apply Kd.R_alloc | apply Kd.R_drewN | apply Kd.R_drew)); exact HO141.out⟩, ⟨by repeat (first | (with_reducible first | exact HB.out | apply below_alloc | apply pw_below_drewN | apply below_drew1) | exact HB.out)⟩⟩
      case round =>
       clear H'
       try clear c2
       try clear p2
       try clear c4
       try clear c4b0
       try clear c6
       try clear c7
       try clear c7b0
       try clear c7b1
       try clear c8
       try clear c8b0
       try clear c8b1
       try clear p2
       obtain ⟨x1_2, x6_2, x22_2, rfl, rfl, HA, HK2, HO_6, HB⟩ := hrel
       cases gk with
       | zero => exact absurd HA.out (by simp [shape_Index.l0])
       | succ k2 =>
        have H := HA.out
        clear HA
        simp only [shape_Index.l0] at H
        by_cases c11 : x22_2 < (l0.length : Int)
        ·rw [if_pos c11] at H
         have c11b0 : decide (x22_2 < (l0.length : Int)) = true := decide_eq_true c11
         clear c11
         obtain ⟨ji12, hji12⟩ : ∃ j_ : Int, (wrap64 ((wrap64 ((l0.length : Int) - 1)) - x22_2)) = j_ := ⟨_, rfl⟩
         replace H : (if 0 ≤ (ji12) then (if (ji12) < (l0.length : Int) then (if (rd l0 (ji12)) = 0 then (none) else (if (ji12) < (x6_2.length : Int) then (shape_Index.l0 k2 l0 (wrap64 (Int.tdiv x1_2 (rd l0 (ji12)))) (x6_2.set ((ji12) : Int).toNat (Int.tmod x1_2 (rd l0 (ji12)))) (l0.length : Int) (wrap64 (x22_2 + 1))) else (none))) else (none)) else (none)) = some (r1, r2) := by first | (rw [hji12] at H; exact H) | (simp only [hji12] at H ⊢; exact H)
         have hji12w : (IntKind.i64.wrap ((wrap64 ((l0.length : Int) - 1)) - x22_2)) = ji12 := (i64_w _).trans hji12
         by_cases c13 : 0 ≤ (ji12)
         ·rw [if_pos c13] at H
          have c13b0 : decide (0 ≤ (ji12)) = true := decide_eq_true c13
          clear c13
          by_cases c14 : (ji12) < (l0.length : Int)
          ·rw [if_pos c14] at H
           have c14b0 : decide ((ji12) < (l0.length : Int)) = true := decide_eq_true c14
           clear c14
           by_cases c15 : (rd l0 (ji12)) = 0
           ·rw [if_pos c15] at H
            exact absurd H (by simp)
           ·rw [if_neg c15] at H
            have c15b0 : ((rd l0 (ji12)) == 0) = false := beq_eq_false_iff_ne.mpr c15
            have c15b1 : ((rd l0 (ji12)) != 0) = true := bne_iff_ne.mpr c15
            by_cases c16 : (ji12) < (x6_2.length : Int)
            ·rw [if_pos c16] at H
             have c16b0 : decide ((ji12) < (x6_2.length : Int)) = true := decide_eq_true c16
             clear c16
             obtain ⟨y144, hy144⟩ : ∃ y_ : List Int, y_ = (x6_2.set ((ji12) : Int).toNat (Int.tmod x1_2 (rd l0 (ji12)))) := ⟨_, rfl⟩
             replace H : (shape_Index.l0 k2 l0 (wrap64 (Int.tdiv x1_2 (rd l0 (ji12)))) y144 (l0.length : Int) (wrap64 (x22_2 + 1))) = some (r1, r2) := by first | (rw [hy144]; with_reducible exact H) | (have H2_ := (Option.bind_some _ _).symm.trans H; rw [hy144]; with_reducible exact H2_) | (have H2_ := (Option.bind_some _ _).symm.trans H; with_reducible exact H2_) | with_reducible exact H | (rw [hy144]; exact H) | exact H
             have Ny144 := Aside0.mk hy144
             clear hy144
             have H' := Aside0.mk H
             clear H
             try go_wp2
             have n0_ := Aside0.mk (Kd.R_drew HO_6.out)
             have n1_ := Aside0.mk (below_drew1 HB.out)
             clear HO_6 HB
             have HO_6 := n0_
             have HB := n1_
             clear n0_ n1_
             have p142 : 0 ≤ ((ji12) : Int) := od_
             have q142 : (ji12) < (l0.length : Int) := od_
             obtain ⟨ad142, e142, hx142_0⟩ := Kd.at_int HR0.out (ji12) p142 q142
             have hw142_0 := hx142_0
             cases e142
             replace hx142_0 := (HB.out.cell (World.block_lt_of_cell? w _ hx142_0)).trans hx142_0
             replace p142 := eq_true p142
             replace q142 := eq_true q142
             have p143 : 0 ≤ ((ji12) : Int) := od_
             have q143 : (ji12) < (l0.length : Int) := od_
             obtain ⟨ad143, e143, hx143_0⟩ := Kd.at_int HR0.out (ji12) p143 q143
             have hw143_0 := hx143_0
             obtain rfl : ad142 = ad143 := (by injection e143)
             replace hx143_0 := (HB.out.cell (World.block_lt_of_cell? w _ hx143_0)).trans hx143_0
             replace p143 := eq_true p143
             replace q143 := eq_true q143
             have p17 : 0 ≤ ((ji12) : Int) := od_
             have q17 : ((ji12) : Int) < ((x6_2.length : Int) : Int) := od_
             obtain ⟨go17, co17, eo17, gb17, gl17, cl17, HG17⟩ := Kd.R_form HO_6.out (by omega)
             (first | cases eo17 | (injection eo17 with ea_ en_ ec_; (first | subst ea_ | (injection ea_ with ea_; subst ea_)); subst ec_; clear en_))
             have GB17 := Aside0.mk gb17
             have GG17 := Aside0.mk HG17
             clear gb17 gl17 HG17
             obtain ⟨hx17_0, hf17_0⟩ := Kd.R_celln 0 HO_6.out ((ji12) : Int) p17 q17
             replace p17 := eq_true p17
             replace q17 := eq_true q17
             have HP19 := Kd.R_putn HO_6.out ((ji12) : Int) (Int.tmod x1_2 (rd l0 (ji12)))
             rw [← Ny144.out] at HP19
             have HQ19 := Aside0.mk HP19
             clear HP19
             refine start_ (n := 17) (S := fun w' => w'.cell? (ad142.add ((ji12)).toNat) = some (.int .i64 (rd l0 (ji12))) ∧ w'.cell? (ad142.add ((ji12)).toNat) = some (.int .i64 (rd l0 (ji12)))) (ds := [15]) L24_0 (by kernel_rfl) rfl rfl ⟨((HB.out.cell (World.block_lt_of_cell? w _ hw142_0)).trans hw142_0), ((HB.out.cell (World.block_lt_of_cell? w _ hw143_0)).trans hw143_0)⟩ (fun hHeld => ?_); refine with_tabW shape_Index.tab8 shape_Index.bits8 (fun HT_ HW_ => ?_)
             generalize wr.drew = w18 at HO_6 HB GG17 HQ19 hf17_0 hx142_0 hx143_0 hx17_0 hHeld ⊢
             refine pure_ (i := 0) (N := some 30) (v := ?_) (a' := ?_) L24_1 rfl rfl (any_of HT_.out (by kernel_rfl)) (fun _ _ _ h => h) (Or.inl ⟨by rfl, ?_⟩) ?_ ?_
             rotate_left
             ·intro w'
              go_simp
              with_reducible rfl
             rotate_left
             ·simp only [Act.put, sA_, sB_, sC_, i64_w, i32_w]
              rfl
             refine pure_ (i := 1) (N := some 31) (v := ?_) (a' := ?_) L24_2 rfl rfl (any_of HT_.out (by kernel_rfl)) (fun _ _ _ h => h) (Or.inl ⟨by rfl, ?_⟩) ?_ ?_
             rotate_left
             ·intro w'
              go_simp
              with_reducible rfl
             rotate_left
             ·simp only [Act.put, sA_, sB_, sC_, i64_w, i32_w]
              rfl
             refine pure_ (i := 2) (N := some 32) (v := ?_) (a' := ?_) L24_3 rfl rfl (any_of HT_.out (by kernel_rfl)) (fun _ _ _ h => h) (Or.inl ⟨by rfl, ?_⟩) ?_ ?_
             rotate_left
             ·intro w'
              go_simp
              with_reducible rfl
             rotate_left
             ·simp only [Act.put, sA_, sB_, sC_, i64_w, i32_w]
              rfl
             refine pure_ (i := 3) (N := some 33) (v := ?_) (a' := ?_) L24_4 rfl rfl (any_of HT_.out (by kernel_rfl)) (fun _ _ _ h => h) (Or.inl ⟨by rfl, ?_⟩) ?_ ?_
             rotate_left
             ·intro w'
              go_simp
              with_reducible rfl
             rotate_left
             ·simp only [Act.put, sA_, sB_, sC_, i64_w, i32_w]
              rfl
             refine pure_ (i := 4) (N := some 34) (v := ?_) (a' := ?_) L24_5 rfl rfl (any_of HT_.out (by kernel_rfl)) (fun _ _ _ h => h) (Or.inl ⟨by rfl, ?_⟩) ?_ ?_
             rotate_left
             ·intro w'
              go_simp
              with_reducible rfl
             rotate_left
             ·simp only [Act.put, sA_, sB_, sC_, i64_w, i32_w]
              rfl
             refine pure_ (i := 5) (N := some 35) (v := ?_) (a' := ?_) L24_6 rfl rfl (any_of HT_.out (by kernel_rfl)) (fun _ _ _ h => h) (Or.inl ⟨by rfl, ?_⟩) ?_ ?_
             rotate_left
             ·intro w'
              go_simp
              with_reducible rfl
             rotate_left
             ·simp only [Act.put, sA_, sB_, sC_, i64_w, i32_w]
              rfl
             refine pure_ (i := 8) (N := some 38) (v := ?_) (a' := ?_) L24_7 rfl rfl (any_of HT_.out (by kernel_rfl)) (fun _ _ _ h => h) (Or.inl ⟨by rfl, ?_⟩) ?_ ?_
             rotate_left
             ·intro w'
              go_simp
              with_reducible rfl
             rotate_left
             ·simp only [Act.put, sA_, sB_, sC_, i64_w, i32_w]
              rfl
             refine pure_ (i := 9) (N := some 39) (v := ?_) (a' := ?_) L24_8 rfl rfl (any_of HT_.out (by kernel_rfl)) (fun _ _ _ h => h) (Or.inl ⟨by rfl, ?_⟩) ?_ ?_
             rotate_left
             ·intro w'
              go_simp
              with_reducible rfl
             rotate_left
             ·simp only [Act.put, sA_, sB_, sC_, i64_w, i32_w]
              rfl
             refine pure_ (i := 10) (N := some 40) (v := ?_) (a' := ?_) L24_9 rfl rfl (any_of HT_.out (by kernel_rfl)) (fun _ _ _ h => h) (Or.inl ⟨by rfl, ?_⟩) ?_ ?_
             rotate_left
             ·intro w'
              go_simp
              with_reducible rfl
             rotate_left
             ·simp only [Act.put, sA_, sB_, sC_, i64_w, i32_w]
              rfl
             refine pure_ (i := 11) (N := some 41) (v := ?_) (a' := ?_) L24_10 rfl rfl (any_of HT_.out (by kernel_rfl)) (fun _ _ _ h => h) (Or.inl ⟨by rfl, ?_⟩) ?_ ?_
             rotate_left
             ·intro w'
              go_simp
              with_reducible rfl
             rotate_left
             ·simp only [Act.put, sA_, sB_, sC_, i64_w, i32_w]
              rfl
             refine take_ (i := 6) (N := some 36) (v := ?_) (a' := ?_) L24_11 rfl rfl (take_ofW HT_.out HW_.out (by kernel_rfl)) (fun _ _ _ h => h) (Or.inl ⟨by rfl, ?_⟩) hHeld ?_ ?_
             rotate_left
             ·rintro w' ⟨s0, s1⟩
              go_simp
              with_reducible rfl
             rotate_left
             ·simp only [Act.put, sA_, sB_, sC_, i64_w, i32_w]
              rfl
             refine pure_ (i := 7) (N := some 37) (v := ?_) (a' := ?_) L24_12 rfl rfl (any_of HT_.out (by kernel_rfl)) (fun _ _ _ h => h) (Or.inl ⟨by rfl, ?_⟩) ?_ ?_
             rotate_left
             ·intro w'
              go_simp
              with_reducible rfl
             rotate_left
             ·simp only [Act.put, sA_, sB_, sC_, i64_w, i32_w]
              rfl
             refine take_ (i := 12) (N := some 42) (v := ?_) (a' := ?_) L24_13 rfl rfl (take_ofW HT_.out HW_.out (by kernel_rfl)) (fun _ _ _ h => h) (Or.inl ⟨by rfl, ?_⟩) hHeld ?_ ?_
             rotate_left
             ·rintro w' ⟨s0, s1⟩
              go_simp
              with_reducible rfl
             rotate_left
             ·simp only [Act.put, sA_, sB_, sC_, i64_w, i32_w]
              rfl
             refine pure_ (i := 13) (N := some 43) (v := ?_) (a' := ?_) L24_14 rfl rfl (any_of HT_.out (by kernel_rfl)) (fun _ _ _ h => h) (Or.inl ⟨by rfl, ?_⟩) ?_ ?_
             rotate_left
             ·intro w'
              go_simp
              with_reducible rfl
             rotate_left
             ·simp only [Act.put, sA_, sB_, sC_, i64_w, i32_w]
              rfl
             refine pure_ (i := 14) (N := some 44) (v := ?_) (a' := ?_) L24_15 rfl rfl (any_of HT_.out (by kernel_rfl)) (fun _ _ _ h => h) (Or.inl ⟨by rfl, ?_⟩) ?_ ?_
             rotate_left
             ·intro w'
              go_simp
              with_reducible rfl
             rotate_left
             ·simp only [Act.put, sA_, sB_, sC_, i64_w, i32_w]
              rfl
             refine last_ (i := 15) (N := none) L24_16 rfl rfl (one_of HT_.out (by kernel_rfl)) (by decide) (fun K hK => ?_)
             refine skip_ (w1 := ?_) (by rfl) rfl ?_ ?_
             rotate_left
             ·go_simp
              rfl
             refine hK.out _ _ ?_
             clear hK K
             refine pure_ (i := 16) (N := some 1) (v := ?_) (a' := ?_) L24_17 rfl rfl (any_of HT_.out (by kernel_rfl)) (fun _ _ _ h => h) (Or.inl ⟨by rfl, ?_⟩) ?_ ?_
             rotate_left
             ·intro w'
              go_simp
              with_reducible rfl
             rotate_left
             ·simp only [Act.put, sA_, sB_, sC_, i64_w, i32_w]
              rfl
             refine done_ (done_of HT_.out (by kernel_rfl)) ?_
             try go_wp2
             go_roundg k2
             case measure => have := HJ2.out; have := HK2.out; omega
             case rel => exact ⟨(wrap64 (Int.tdiv x1_2 (rd l0 (ji12)))), (y144), (wrap64 (x22_2 + 1)), (by first | rfl | (simp; done) | (simp only [← hji12] <;> (first | rfl | simp)) | (simp [*]; done)), (by first | rfl | (simp; done) | (simp [*]; done)), H', ⟨by have := HJ2.out; have := HK2.out; omega⟩, ⟨by (with_reducible repeat (first | apply Kd.R_alloc | apply Kd.R_drewN | apply Kd.R_drew)); exact HQ19.out⟩, ⟨by repeat (first | (with_reducible first | exact HB.out | apply below_alloc | apply pw_below_drewN | apply below_drew1 | refine below_set ?_ GB17.out) | exact HB.out)⟩⟩
            ·rw [if_neg c16] at H
             exact absurd H (by simp)
          ·rw [if_neg c14] at H
           exact absurd H (by simp)
         ·rw [if_neg c13] at H
          exact absurd H (by simp)
        ·rw [if_neg c11] at H
         have c11b0 : decide (x22_2 < (l0.length : Int)) = false := decide_eq_false c11
         clear c11
         simp only [Option.some.injEq, Prod.mk.injEq] at H
         obtain ⟨rfl, rfl⟩ := H
         go_wp2
         go_ret2
         exact ⟨_, by first | rfl | (simp [errW_none, errW_some] <;> rfl) | (simp [*, errW_none, errW_some] <;> rfl), by (with_reducible repeat (first | apply Kd.R_alloc | apply Kd.R_drewN | apply Kd.R_drew)); exact HO_6.out, by repeat (first | (with_reducible first | exact HB.out | apply below_alloc | apply pw_below_drewN | apply below_drew1) | exact HB.out)⟩
     ·rw [if_neg c8] at H
      exact absurd H (by simp)
    ·rw [if_neg c7] at H
     exact absurd H (by simp)

/-! ### tensor_from: function 35 (given) -/
/-- The steps of a shape's sides, laid at their places in a greater one's. -/
def fsteps (s : List Int) (off : Nat) : Nat → List Int × Int → List Int × Int
 | 0, a => a
 | i + 1, a => fsteps s off i (if 1 < rd s (i : Int) then a.1.set (off + i) a.2 else a.1, wrap64 (a.2 * rd s (i : Int)))
/-- Where an index stands by such steps. -/
def fat : List Int → List Int → Int → Int
 | n :: x, c :: st, at_ => fat x st (wrap64 (at_ + wrap64 (n * c)))
 | _, _, at_ => at_
/-- The place that a place of a greater shape comes from. -/
def fplace (k : Nat) (s great : List Int) (p : Int) : Option Int :=
 (shape_Index.f k great p).bind fun x => if x.1.length ≤ great.length then some (fat x.1 (fsteps s (great.length - s.length) s.length (List.replicate great.length 0, 1)).1 0) else none
set_option maxHeartbeats 8000000 in
set_option maxRecDepth 100000 in
theorem tensor_from.calls (A0 : Option Addr) (c0 n0 : Nat) (A1 : Option Addr) (c1 n1 : Nat) (w : World) :
  Calls Try.prog 35 #[.slice A0 n0 c0, .slice A1 n1 c1] w fun e w' => e = .returned (.func (.func 45) #[] #[.pointer (some ⟨w.heap.size + 1, 0, none⟩), .pointer (some ⟨w.heap.size, 0, none⟩)]) ∧ w' = (w.alloc (.cells #[.slice A0 n0 c0] 22)).alloc (.cells #[.slice A1 n1 c1] 22) := by
 go_enter Try.func35, Try.ntmps35
 go_wp2_with fail
 go_ret
 exact ⟨rfl, rfl⟩
/-- What a round of the loop keeps: all that lay below n₀, and all cells but block d's. -/
structure Frk (n₀ d : Nat) (W W' : World) : Prop where
 bel : Below n₀ W W'
 oth : ∀ (k : Nat) (o : Obj), W.heap[k]? = some o → o.isCells = true → k ≠ d → W'.heap[k]? = some o
/-- What is known of what the walk over places reads. -/
structure FrEnv (w0 : World) (d : Nat) (s great : List Int) (As Ag : Option Addr) (cs cg sb gb : Nat) (W : World) : Prop where
 bel : Below w0.heap.size w0 W
 hs : Kd.C (Kd.int .i64) w0 As s.length s
 hg : Kd.C (Kd.int .i64) w0 Ag great.length great
 lcs : s.length ≤ cs
 lcg : great.length ≤ cg
 ls : s.length ≤ great.length
 lg : great.length < 17592186044416
 bs : W.heap[sb]? = some (.cells #[.slice As s.length cs] 22 (0, 0))
 bg : W.heap[gb]? = some (.cells #[.slice Ag great.length cg] 22 (0, 0))
 sd : sb ≠ d
 gd : gb ≠ d
 dl : d < W.heap.size
 dn : w0.heap.size ≤ d
theorem FrEnv.grow {w0 W W' : World} {d : Nat} {s great : List Int} {As Ag : Option Addr} {cs cg sb gb : Nat} (h : FrEnv w0 d s great As Ag cs cg sb gb W) (hb : Below W.heap.size W W') : FrEnv w0 d s great As Ag cs cg sb gb W' :=
 ⟨below_step h.bel hb, h.hs, h.hg, h.lcs, h.lcg, h.ls, h.lg, blk_below h.bs hb, blk_below h.bg hb, h.sd, h.gd, Nat.lt_of_lt_of_le h.dl hb.size, h.dn⟩
theorem FrEnv.keep {w0 W W' : World} {d : Nat} {s great : List Int} {As Ag : Option Addr} {cs cg sb gb : Nat} (h : FrEnv w0 d s great As Ag cs cg sb gb W) (hb : Frk w0.heap.size d W W') : FrEnv w0 d s great As Ag cs cg sb gb W' :=
 ⟨h.bel.trans hb.bel, h.hs, h.hg, h.lcs, h.lcg, h.ls, h.lg, hb.oth _ _ h.bs rfl h.sd, hb.oth _ _ h.bg rfl h.gd, h.sd, h.gd, Nat.lt_of_lt_of_le h.dl hb.bel.size, h.dn⟩
theorem grown_of_below {W W' : World} (h : Below W.heap.size W W') : W.grownBy W' none := ⟨h.os, h.tape, h.output, h.size, fun k hk _ => h.block k hk⟩
/-- What is known while the steps are laid. -/
structure FrSt (w0 : World) (d : Nat) (s great : List Int) (As Ag : Option Addr) (cs cg sb gb : Nat) (w : World) (gs off : Nat) (fin : List Int × Int) (q : Nat) (st : List Int) (step : Int) (W : World) : Prop where
 env : FrEnv w0 d s great As Ag cs cg sb gb W
 bel : Below w.heap.size w W
 hgs : w.heap.size ≤ gs
 blk : W.heap[gs]? = some (.cells (encs (Value.int .i64) st).toArray 3 (0, 0))
 len : st.length = great.length
 hq : q ≤ s.length
 hoff : off + s.length = great.length
 fin : fsteps s off q (st, step) = fin
theorem FrSt.put {w0 w W : World} {d : Nat} {s great : List Int} {As Ag : Option Addr} {cs cg sb gb gs off : Nat} {fin : List Int × Int} {q j : Nat} {st : List Int} {step : Int} (h : FrSt w0 d s great As Ag cs cg sb gb w gs off fin (q + 1) st step W) (hw : Below w0.heap.size w0 w) (hsb : sb < w.heap.size) (hgb : gb < w.heap.size) (hd : d < w.heap.size) (hb : 1 < rd s (q : Int)) (hj : j = off + q) :
  FrSt w0 d s great As Ag cs cg sb gb w gs off fin q (st.set j step) (wrap64 (step * rd s (q : Int))) (W.setCell ⟨gs, j, none⟩ (.int .i64 step)) := by
 have h1 := h.hgs
 have h2 := hw.size
 have hb2 : Below w.heap.size W (W.setCell ⟨gs, j, none⟩ (.int .i64 step)) := (Below.refl _ _).setCell (p := ⟨gs, j, none⟩) h1 _
 refine ⟨⟨h.env.bel.trans (hb2.mono h2), h.env.hs, h.env.hg, h.env.lcs, h.env.lcg, h.env.ls, h.env.lg, ?_, ?_, h.env.sd, h.env.gd, ?_, h.env.dn⟩, h.bel.trans hb2, h1, ?_, by rw [List.length_set]; exact h.len, by have := h.hq; omega, h.hoff, ?_⟩
 ·rw [hb2.block sb hsb]; exact h.env.bs
 ·rw [hb2.block gb hgb]; exact h.env.bg
 ·exact Nat.lt_of_lt_of_le h.env.dl hb2.size
 ·have := blk_put h.blk j (.int .i64 step) rfl
  rw [this]
  congr 2
  simp [encs]
 ·rw [← h.fin, fsteps, if_pos hb, hj]
theorem FrSt.skip {w0 w W : World} {d : Nat} {s great : List Int} {As Ag : Option Addr} {cs cg sb gb gs off : Nat} {fin : List Int × Int} {q : Nat} {st : List Int} {step : Int} (h : FrSt w0 d s great As Ag cs cg sb gb w gs off fin (q + 1) st step W) (hb : ¬ 1 < rd s (q : Int)) :
  FrSt w0 d s great As Ag cs cg sb gb w gs off fin q st (wrap64 (step * rd s (q : Int))) W :=
 ⟨h.env, h.bel, h.hgs, h.blk, h.len, by have := h.hq; omega, h.hoff, by rw [← h.fin, fsteps, if_neg hb]⟩
theorem wr64 {x y : Int} (h : x = y) (h1 : -9223372036854775808 ≤ y) (h2 : y ≤ 9223372036854775807) : IntKind.i64.wrap x = y ∧ wrap64 x = y := by
 subst h
 constructor
 ·rw [IntKind.wrap_i64]; omega
 ·unfold wrap64; omega
theorem fr_at {w0 w W : World} {d : Nat} {s great : List Int} {As Ag : Option Addr} {cs cg sb gb gs off : Nat} {fin : List Int × Int} {q p : Nat} {st : List Int} {step : Int} {ad : Addr} (h : FrSt w0 d s great As Ag cs cg sb gb w gs off fin p st step W) (hA : As = some ad) (hq : q < s.length) : W.cell? (ad.add q) = some (.int .i64 (rd s (q : Int))) := by
 obtain ⟨ad', hA', hc⟩ := Kd.at_int (Kd.C_below h.env.hs h.env.bel) (q : Int) (by omega) (by omega)
 rw [hA] at hA'
 obtain rfl := Option.some.inj hA'
 simpa using hc
/-- What is known while the places are walked over. -/
structure FrRd (w0 : World) (d : Nat) (s great : List Int) (As Ag : Option Addr) (cs cg sb gb gs : Nat) (st : List Int) (W : World) : Prop where
 env : FrEnv w0 d s great As Ag cs cg sb gb W
 blk : W.heap[gs]? = some (.cells (encs (Value.int .i64) st).toArray 3 (0, 0))
 len : st.length = great.length
 gsd : gs ≠ d
theorem FrRd.grow {w0 W W' : World} {d : Nat} {s great st : List Int} {As Ag : Option Addr} {cs cg sb gb gs : Nat} (h : FrRd w0 d s great As Ag cs cg sb gb gs st W) (hb : Below W.heap.size W W') : FrRd w0 d s great As Ag cs cg sb gb gs st W' :=
 ⟨h.env.grow hb, blk_below h.blk hb, h.len, h.gsd⟩
theorem FrRd.keep {w0 W W' : World} {d : Nat} {s great st : List Int} {As Ag : Option Addr} {cs cg sb gb gs : Nat} (h : FrRd w0 d s great As Ag cs cg sb gb gs st W) (hb : Frk w0.heap.size d W W') : FrRd w0 d s great As Ag cs cg sb gb gs st W' :=
 ⟨h.env.keep hb, hb.oth _ _ h.blk rfl h.gsd, h.len, h.gsd⟩
theorem fat_step {x st : List Int} {i : Nat} (h : i < x.length) (h' : i < st.length) (a : Int) : fat (x.drop i) (st.drop i) a = fat (x.drop (i + 1)) (st.drop (i + 1)) (wrap64 (a + wrap64 (rd x (i : Int) * rd st (i : Int)))) := by
 rw [List.drop_eq_getElem_cons h, List.drop_eq_getElem_cons h', fat]
 simp [rd, h, h']
theorem take_fin {N p : Nat} (h : p < N) : (List.finRange N).take (p + 1) = (List.finRange N).take p ++ [⟨p, h⟩] := by
 rw [← List.take_append_getElem (l := List.finRange N) (i := p) (by simpa using h)]
 simp
theorem fr_get {xs : List Int} {i : Nat} (h : i < xs.length) : (encs (Value.int .i64) xs).toArray[i]? = some (.int .i64 (rd xs (i : Int))) := by
 simp [encs, rd, h]
set_option maxHeartbeats 8000000 in
set_option maxRecDepth 100000 in
theorem tensor_from1.calls (k n l N : Nat) (w0 : World) (d : Nat) (s great : List Int) (As Ag : Option Addr) (cs cg sb gb : Nat) (W : World) (J Jx : List (Fin N) → World → Prop) (HN : Aside0 (shape_Size.f k great = some (N : Int))) (HNl : Aside0 (N < 17592186044416)) (HJ : Aside0 (∀ pre W1 W2, J pre W1 → Below W1.heap.size W1 W2 → J pre W2)) (h0 : J [] W) (ats : List Int) (HA : Aside0 (∀ p : Nat, p < N → fplace k s great (p : Int) = some (rd ats (p : Int)))) (HY : Aside0 (∀ (pre : List (Fin N)) (x : Fin N) (W1 : World), J pre W1 → pre.length < N → YieldAt Fence.wide (n - 1) Try.prog l #[.int .i64 ((x : Nat) : Int), .int .i64 (rd ats ((x : Nat) : Int))] W1 fun e W' =>
   (e = .returned (.bool true) ∧ J (pre ++ [x]) W' ∧ Frk w0.heap.size d W1 W') ∨ (e = .returned (.bool false) ∧ Jx (pre ++ [x]) W'))) (HE : FrEnv w0 d s great As Ag cs cg sb gb W) (HS : Aside0 (sb < W.heap.size ∧ gb < W.heap.size ∧ True)) :
  Calls Try.prog 45 #[.func (.yield l) #[] #[], .pointer (some ⟨gb, 0, none⟩), .pointer (some ⟨sb, 0, none⟩)] W fun e W' => (∃ v, e = .returned v) ∧ ((∃ xs, xs = List.finRange N ∧ J xs W') ∨ (∃ pre, (∃ q, q ≤ N ∧ pre = (List.finRange N).take q) ∧ Jx pre W')) := by
 have HE0 := Aside0.mk HE
 clear HE
 go_enter Try.func45, Try.ntmps45
 have x1 : W.cell? ⟨gb, 0, none⟩ = some (.slice Ag great.length cg) := (blk_cell HE0.out.bg 0).trans rfl
 have hmk := run_make22 great.length (by have := HE0.out.lg; omega) W
 obtain ⟨W2, hW2⟩ : ∃ W2, W2 = W.alloc (.cells (encs (Value.int .i64) (List.replicate great.length 0)).toArray 3) := ⟨_, rfl⟩
 rw [← hW2] at hmk
 have hb2 : Below W.heap.size W W2 := by rw [hW2]; exact below_alloc (Below.refl _ _) _
 have BS := Aside0.mk (show W2.heap[W.heap.size]? = some (.cells (encs (Value.int .i64) (List.replicate great.length 0)).toArray 3 (0, 0)) by rw [hW2]; exact blk_new _ _)
 have HE2 := Aside0.mk (HE0.out.grow hb2)
 have x2 : W2.cell? ⟨sb, 0, none⟩ = some (.slice As s.length cs) := (blk_cell HE2.out.bs 0).trans rfl
 have HB2 := Aside0.mk hb2
 clear hb2 hW2
 obtain ⟨off, hoff⟩ : ∃ off, off + s.length = great.length := ⟨great.length - s.length, by have := HE0.out.ls; omega⟩
 obtain ⟨fin, hfin⟩ : ∃ fin, fin = fsteps s off s.length (List.replicate great.length 0, 1) := ⟨_, rfl⟩
 have HFin := Aside0.mk hfin
 clear hfin
 have hst := Aside0.mk (show FrSt w0 d s great As Ag cs cg sb gb W W.heap.size off fin s.length (List.replicate great.length 0) 1 W2 from ⟨HE2.out, HB2.out, Nat.le_refl _, BS.out, by simp, Nat.le_refl _, hoff, HFin.out.symm⟩)
 have hls := HE0.out.ls
 have hlg := HE0.out.lg
 have e0 : wrap64 ((s.length : Int) - 1) = (s.length : Int) - 1 := by unfold wrap64; omega
 have e0' : IntKind.i64.wrap ((s.length : Int) - 1) = (s.length : Int) - 1 := by rw [IntKind.wrap_i64]; omega
 have HOff := Aside0.mk hoff
 clear hls hlg hoff
 obtain ⟨gs, hgs⟩ : ∃ gs, gs = W.heap.size := ⟨_, rfl⟩
 rw [← hgs] at hmk BS hst
 have HG := Aside0.mk hgs
 clear hgs
 go_wp2_with fail
 clear e0 e0' hmk x1 x2
 go_loopg [5, 6] s.length (fun q v5 v6 wr => ∃ (st : List Int) (step : Int), v5 = .int .i64 ((q : Int) - 1) ∧ v6 = .int .i64 step ∧ Aside0 (FrSt w0 d s great As Ag cs cg sb gb W gs off fin q st step wr))
 case atStart => exact ⟨_, _, rfl, rfl, hst⟩
 case round =>
  obtain ⟨st, step, rfl, rfl, HI⟩ := hrel
  cases gk with
  | zero =>
   have e1 : ((0 : Nat) : Int) - 1 = -1 := by omega
   rw [e1]
   clear e1
   have x1 : wr.cell? ⟨gb, 0, none⟩ = some (.slice Ag great.length cg) := (blk_cell HI.out.env.bg 0).trans rfl
   go_wp2_with fail
   refine (shape_Size.calls k Ag cg great (N : Int) _ (Kd.C_below HI.out.env.hg HI.out.env.bel) HI.out.env.lcg HN.out).mono ?_
   rintro e w3 ⟨rfl, hd3⟩
   have hb3 := hd3.below
   have ef : fin.1 = st := by have := HI.out.fin; rw [fsteps] at this; rw [← this]
   have HR := Aside0.mk (show FrRd w0 d s great As Ag cs cg sb gb gs fin.1 w3 from ⟨HI.out.env.grow hb3, by rw [ef]; exact blk_below HI.out.blk hb3, by rw [ef]; exact HI.out.len, by have h1 := HI.out.hgs; have h2 := HE0.out.dl; omega⟩)
   have HJ3 := Aside0.mk (HJ.out [] W w3 h0 (HI.out.bel.trans (hb3.mono HI.out.bel.size)))
   clear hb3 hd3 x1 ef
   go_wp2_with fail
   clear HI
   go_loopg [46] N (fun kq v46 wr => ∃ p : Nat, v46 = .int .i64 (p : Int) ∧ Aside0 (p + kq = N) ∧ Aside0 (FrRd w0 d s great As Ag cs cg sb gb gs fin.1 wr) ∧ Aside0 (J ((List.finRange N).take p) wr))
   case atStart => exact ⟨0, rfl, ⟨by omega⟩, HR, HJ3⟩
   case round =>
    obtain ⟨p, rfl, HP, HR, HJp⟩ := hrel
    cases gk with
    | zero =>
     obtain rfl : p = N := by have := HP.out; omega
     have t1 : decide ((p : Int) < (p : Int)) = false := by simp
     go_wp2_with fail
     go_end0
     have hJ2 := HJp.out
     rw [List.take_of_length_le (by simp)] at hJ2
     exact ⟨⟨_, rfl⟩, .inl ⟨_, rfl, hJ2⟩⟩
    | succ kq =>
     have hp : p < N := by have := HP.out; omega
     have t1 : decide ((p : Int) < (N : Int)) = true := by simp; exact hp
     have t0 : decide (p < N) = true := decide_eq_true hp
     obtain ⟨⟨x, e2⟩, hx, hx2⟩ := Option.bind_eq_some_iff.mp (HA.out p hp)
     have HPN := Aside0.mk hp
     clear hp
     have HX := Aside0.mk hx
     clear hx
     split at hx2
     case isFalse => cases hx2
     case isTrue hxl =>
     have HX2 := Aside0.mk (Option.some.inj hx2)
     have HXL := Aside0.mk hxl
     clear hx2 hxl
     have x1 : wr.cell? ⟨gb, 0, none⟩ = some (.slice Ag great.length cg) := (blk_cell HR.out.env.bg 0).trans rfl
     go_wp2_with fail
     refine (shape_Index.calls k Ag cg great (p : Int) x e2 _ (Kd.C_below HR.out.env.hg HR.out.env.bel) HR.out.env.lcg HX.out).mono ?_
     rintro e w4 ⟨v4, rfl, hR4, hb4⟩
     obtain ⟨Ax, cx, rfl⟩ := Kd.R_slice hR4
     replace HR := Aside0.mk (HR.out.grow hb4)
     replace HJp := Aside0.mk (HJ.out _ _ _ HJp.out hb4)
     have HX4 := Aside0.mk (Kd.R_reads' hR4).2.2
     clear hb4 hR4 x1
     have HF := Aside0.mk (show fat x fin.1 0 = rd ats (p : Int) by
      rw [HFin.out, show off = great.length - s.length by have := HOff.out; omega]
      exact HX2.out)
     go_wp2_with fail
     go_loopg [57, 10] x.length (fun kx v57 v10 wr => ∃ (i : Nat) (at_ : Int), v57 = .int .i64 (i : Int) ∧ v10 = .int .i64 at_ ∧ Aside0 (i + kx = x.length) ∧ Aside0 (fat (x.drop i) (fin.1.drop i) at_ = rd ats (p : Int)) ∧ wr = w4)
     case atStart => exact ⟨0, 0, rfl, rfl, ⟨by omega⟩, HF, rfl⟩
     case round =>
      obtain ⟨i, at_, rfl, rfl, HIx, HAt, rfl⟩ := hrel
      cases gk with
      | zero =>
       obtain rfl : i = x.length := by have := HIx.out; omega
       have t2 : decide ((x.length : Int) < (x.length : Int)) = false := by simp
       have e3 := HAt.out
       rw [List.drop_of_length_le (Nat.le_refl _)] at e3
       have e4 : at_ = rd ats (p : Int) := e3
       subst e4
       clear e3
       go_upto_region 17 with fail
       obtain ⟨fn, tmps, assign, body, hy, hR⟩ := HY.out _ ⟨p, HPN.out⟩ wr HJp.out (by have := HPN.out; simp; omega)
       dsimp only at hy
       refine (wpIn_wide (n := n)).1 ?_
       gi_wp2
       refine ⟨fun h => by simp [Fence.wide] at h, hR.mono ?_⟩
       rintro e W3 (⟨rfl, hJ3, hk3⟩ | ⟨rfl, hJx3⟩)
       ·gi_wp2
        have EW := Aside0.mk (wr64 (x := (p : Int) + 1) (y := ((p + 1 : Nat) : Int)) (by omega) (by omega) (by have := HNl.out; have := HPN.out; omega))
        go_wp2_with fail
        go_roundg kq
        case measure => omega
        case rel =>
         refine ⟨p + 1, ?_, ⟨by have := HP.out; omega⟩, ⟨HR.out.keep hk3⟩, ⟨by rw [take_fin HPN.out]; exact hJ3⟩⟩
         rw [EW.out.2]
       ·gi_wp2
        go_wp2_with fail
        refine bodyPost_ret (results_none rfl _ _ _) rfl ?_
        exact ⟨⟨_, rfl⟩, .inr ⟨_, ⟨p + 1, by have := HPN.out; omega, by rw [take_fin HPN.out]⟩, hJx3⟩⟩
      | succ kx =>
       have hi : i < x.length := by have := HIx.out; omega
       have hig : i < great.length := by have := HXL.out; omega
       obtain ⟨ad, hA, hc⟩ := Kd.at_int HX4.out (i : Int) (by omega) (by omega)
       simp only [Int.toNat_natCast] at hc
       subst hA
       have x3 := blk_cell HR.out.blk i
       rw [fr_get (show i < fin.1.length by have := HR.out.len; omega)] at x3
       have q1 : (0 ≤ (i : Int)) = True := eq_true (by omega)
       have q2 : ((i : Int) < (x.length : Int)) = True := eq_true (by omega)
       have q3 : (i < x.length) = True := eq_true hi
       have p2 : ((i : Int) < (great.length : Int)) = True := eq_true (by omega)
       have p3 : (i < great.length) = True := eq_true hig
       have t2 : decide ((i : Int) < (x.length : Int)) = true := by simp; exact hi
       have t3 : decide (i < x.length) = true := decide_eq_true hi
       have EW := Aside0.mk (wr64 (x := (i : Int) + 1) (y := ((i + 1 : Nat) : Int)) (by omega) (by omega) (by have := HR.out.env.lg; omega))
       have HAt2 := Aside0.mk (show fat (x.drop (i + 1)) (fin.1.drop (i + 1)) (wrap64 (at_ + wrap64 (rd x (i : Int) * rd fin.1 (i : Int)))) = rd ats (p : Int) by
        rw [← HAt.out]; exact (fat_step hi (by have := HR.out.len; omega) at_).symm)
       clear hi hig
       go_wp2_with fail
       go_roundg kx
       case measure => omega
       case rel =>
        refine ⟨i + 1, _, ?_, rfl, ⟨by have := HIx.out; omega⟩, HAt2, rfl⟩
        first | rw [EW.out.2] | rw [EW.out.1]
  | succ q =>
   have e1 : ((q + 1 : Nat) : Int) - 1 = (q : Int) := by omega
   rw [e1]
   clear e1
   have t1 : decide ((q : Int) ≥ 0) = true := by simp
   have hq : q < s.length := by have := HI.out.hq; omega
   have hoff := HI.out.hoff
   have hlg := HI.out.env.lg
   obtain ⟨ad, hA, hc⟩ := Kd.at_int (Kd.C_below HI.out.env.hs HI.out.env.bel) (q : Int) (by omega) (by omega)
   simp only [Int.toNat_natCast] at hc
   have x2 : wr.cell? ⟨sb, 0, none⟩ = some (.slice As s.length cs) := (blk_cell HI.out.env.bs 0).trans rfl
   rw [hA] at x2
   have x1 : wr.cell? ⟨gb, 0, none⟩ = some (.slice Ag great.length cg) := (blk_cell HI.out.env.bg 0).trans rfl
   have q1 : (0 ≤ (q : Int)) = True := eq_true (by omega)
   have q2 : ((q : Int) < (s.length : Int)) = True := eq_true (by omega)
   have q3 : (q < s.length) = True := eq_true hq
   obtain ⟨j, hj⟩ : ∃ j, j = off + q := ⟨_, rfl⟩
   have p1 : (0 ≤ (j : Int)) = True := eq_true (by omega)
   have p2 : ((j : Int) < (great.length : Int)) = True := eq_true (by omega)
   have p3 : (j < great.length) = True := eq_true (by omega)
   have y3 := blk_frozen HI.out.blk j
   have x3 := blk_cell HI.out.blk j
   rw [fr_get (show j < st.length by have := HI.out.len; omega)] at x3
   have E2 := Aside0.mk (wr64 (x := (great.length : Int) - (s.length : Int)) (y := (off : Int)) (by omega) (by omega) (by omega))
   have E3 := Aside0.mk (wr64 (x := (off : Int) + (q : Int)) (y := (j : Int)) (by omega) (by omega) (by omega))
   have E4 := Aside0.mk (wr64 (x := (q : Int) - 1) rfl (by omega) (by omega))
   have HQ := Aside0.mk hq
   have HJ := Aside0.mk hj
   clear hq hoff hlg hj
   by_cases hb : 1 < rd s (q : Int)
   ·have t2 : decide (1 < rd s (q : Int)) = true := decide_eq_true hb
    have HBb := Aside0.mk hb
    clear hb
    obtain ⟨e2, e2'⟩ := E2.out
    obtain ⟨e3, e3'⟩ := E3.out
    go_upto_region 6 with fail
    clear e2 e3 e2' e3' x1 x2 x3 y3 hc p1 p2 p3 t2
    have HI2 := Aside0.mk (HI.out.put HE0.out.bel HS.out.1 HS.out.2.1 HE0.out.dl HBb.out HJ.out)
    obtain ⟨W4, hW4⟩ : ∃ W4, W4 = wr.setCell ⟨gs, j, none⟩ (.int .i64 step) := ⟨_, rfl⟩
    rw [← hW4] at HI2 ⊢
    clear hW4
    have hc : W4.cell? (ad.add q) = some (.int .i64 (rd s (q : Int))) := fr_at HI2.out hA HQ.out
    have x2 : W4.cell? ⟨sb, 0, none⟩ = some (.slice As s.length cs) := (blk_cell HI2.out.env.bs 0).trans rfl
    rw [hA] at x2
    obtain ⟨e4, e4'⟩ := E4.out
    go_wp2_with fail
    go_roundg q
    case measure => omega
    case rel => exact ⟨_, _, rfl, rfl, HI2⟩
   ·have t2 : decide (1 < rd s (q : Int)) = false := decide_eq_false hb
    have HI2 := Aside0.mk (HI.out.skip hb)
    clear hb
    obtain ⟨e4, e4'⟩ := E4.out
    go_wp2_with fail
    go_roundg q
    case measure => omega
    case rel => exact ⟨_, _, rfl, rfl, HI2⟩
/-- The walk over places, as an iterator gives them. -/
theorem tensor_from1.seq (k n N : Nat) (w0 W0 : World) (d : Nat) (s great : List Int) (As Ag : Option Addr) (cs cg sb gb : Nat) (HE : FrEnv w0 d s great As Ag cs cg sb gb W0) (hsb : sb < W0.heap.size) (hgb : gb < W0.heap.size) (HN : shape_Size.f k great = some (N : Int)) (HNl : N < 17592186044416) (ats : List Int) (HA : ∀ p : Nat, p < N → fplace k s great (p : Int) = some (rd ats (p : Int))) :
  SeqStopsK Fence.wide n Try.prog 45 #[.pointer (some ⟨gb, 0, none⟩), .pointer (some ⟨sb, 0, none⟩)] (fun x : Fin N => #[.int .i64 ((x : Nat) : Int), .int .i64 (rd ats ((x : Nat) : Int))]) (Frk w0.heap.size d) (fun xs => xs = List.finRange N) (fun pre => ∃ q, q ≤ N ∧ pre = (List.finRange N).take q) N W0 := by
 intro l J Jx W hW hJ hJx hY h0
 exact (callsIn_wide (n := n)).2 (tensor_from1.calls k n l N w0 d s great As Ag cs cg sb gb W J Jx ⟨HN⟩ ⟨HNl⟩ ⟨fun pre W1 W2 h hb => hJ pre W1 W2 none h (grown_of_below hb) (fun r e => by cases e)⟩ h0 ats ⟨HA⟩ ⟨hY⟩ (HE.grow hW) ⟨⟨Nat.lt_of_lt_of_le hsb hW.size, Nat.lt_of_lt_of_le hgb hW.size, trivial⟩⟩)


end Go.Proofs.Ytoiaegbhnpddlaa.A
