/- Lean functions that answer as the Go functions do, and the proofs that they do; no conditions. Written by this session's own driver: a scratch copy of the kit's print with the session's additions (wip/xprint). -/
import Derived.Test.YtoiaegbhnpddlaaAx0
import Derived.Test.YtoiaegbhnpddlaaAx7
import Derived.Test.YtoiaegbhnpddlaaAx8
import Derived.Test.YtoiaegbhnpddlaaAx9
namespace Go.Proofs.Ytoiaegbhnpddlaa.A
open Go.RowKit Go.Proofs.YtoiaegbhnpddlaaW.PrintWords Go.Proofs.YtoiaegbhnpddlaaW.PrintLast Go.Proofs.YtoiaegbhnpddlaaW.PrintMore
attribute [local go_sem] max2_int min2_int max_two min_two max_three min_three max_four min_four   -- for this text's walks alone
set_option linter.unusedVariables false
set_option linter.unusedSimpArgs false

/-! ### fullerref02_Join: function 46 -/
mutual
def fullerref02_Join.j0 : Nat → List Int → List Int → Bool → Option (List Int × Int)
 | 0, _, _, _ => none
 | k + 1, x0, x1, x23 => if x23 = true then (some (([] : List Int), 20)) else ((fullerref02_Wide.f k x0 (x1.length : Int)).bind fun t296 => ((fullerref02_Wide.f k x1 (x0.length : Int)).bind fun t299 => (fullerref02_Join.l0 k t296 t299 ([] : List Int) 0)))
def fullerref02_Join.l0 : Nat → List Int → List Int → List Int → Int → Option (List Int × Int)
 | 0, _, _, _, _ => none
 | k + 1, x8, x9, x10, x11 => if x11 < (x8.length : Int) then (if 0 ≤ x11 then (if x11 < (x9.length : Int) then (if (rd x8 x11) = 1 then (if (rd x9 x11) = 1 then (if x10.length < 17592186044416 then (fullerref02_Join.l0 k x8 x9 (x10 ++ [mx (rd x8 x11) (rd x9 x11)]) (wrap64 (x11 + 1))) else (none)) else (if (rd x9 x11) = (mx (rd x8 x11) (rd x9 x11)) then (if x10.length < 17592186044416 then (fullerref02_Join.l0 k x8 x9 (x10 ++ [mx (rd x8 x11) (rd x9 x11)]) (wrap64 (x11 + 1))) else (none)) else (some (([] : List Int), 20)))) else (if (rd x8 x11) = (mx (rd x8 x11) (rd x9 x11)) then (if (rd x9 x11) = 1 then (if x10.length < 17592186044416 then (fullerref02_Join.l0 k x8 x9 (x10 ++ [mx (rd x8 x11) (rd x9 x11)]) (wrap64 (x11 + 1))) else (none)) else (if (rd x9 x11) = (mx (rd x8 x11) (rd x9 x11)) then (if x10.length < 17592186044416 then (fullerref02_Join.l0 k x8 x9 (x10 ++ [mx (rd x8 x11) (rd x9 x11)]) (wrap64 (x11 + 1))) else (none)) else (some (([] : List Int), 20)))) else (some (([] : List Int), 20)))) else (none)) else (none)) else ((fullerref02_Check.f k x10).bind fun t322 => (if t322 = true then (some (x10, 0)) else (some (([] : List Int), 20))))
end
def fullerref02_Join.f (k : Nat) (l0 : List Int) (l1 : List Int) : Option (List Int × Int) := (fullerref02_Check.f k l0).bind fun t294 => ((fullerref02_Check.f k l1).bind fun t295 => (if t294 = true then (fullerref02_Join.j0 k l0 l1 (!t295)) else (fullerref02_Join.j0 k l0 l1 true)))
theorem fullerref02_Join.mono_l : ∀ k, (∀ y0 y1 y2, LeO (fullerref02_Join.j0 k y0 y1 y2) (fullerref02_Join.j0 (k + 1) y0 y1 y2)) ∧ (∀ y0 y1 y2 y3, LeO (fullerref02_Join.l0 k y0 y1 y2 y3) (fullerref02_Join.l0 (k + 1) y0 y1 y2 y3))
 | 0 => ⟨fun _ _ _ r h => by simp [fullerref02_Join.j0] at h, fun _ _ _ _ r h => by simp [fullerref02_Join.l0] at h⟩
 | k + 1 => by
  obtain ⟨ih0, ih1⟩ := fullerref02_Join.mono_l k
  refine ⟨?_, ?_⟩
  ·intro y0 y1 y2
   unfold fullerref02_Join.j0
   repeat' first
   | (with_reducible exact ih0 _ _ _)
   | (with_reducible exact ih1 _ _ _ _)
   | (with_reducible exact fullerref02_Check.mono _ _)
   | (with_reducible exact fullerref02_Wide.mono _ _ _)
   | (with_reducible exact LeO.refl _)
   | (with_reducible exact LeO.none _)
   | (with_reducible refine LeO.ite ?_ ?_)
   | (with_reducible refine LeO.bind ?_ (fun _ => ?_))
   | exact ih0 _ _ _
   | exact ih1 _ _ _ _
   | exact fullerref02_Check.mono _ _
   | exact fullerref02_Wide.mono _ _ _
   | exact LeO.none _
   | refine LeO.ite ?_ ?_
   | refine LeO.bind ?_ (fun _ => ?_)
  ·intro y0 y1 y2 y3
   unfold fullerref02_Join.l0
   repeat' first
   | (with_reducible exact ih0 _ _ _)
   | (with_reducible exact ih1 _ _ _ _)
   | (with_reducible exact fullerref02_Check.mono _ _)
   | (with_reducible exact fullerref02_Wide.mono _ _ _)
   | (with_reducible exact LeO.refl _)
   | (with_reducible exact LeO.none _)
   | (with_reducible refine LeO.ite ?_ ?_)
   | (with_reducible refine LeO.bind ?_ (fun _ => ?_))
   | exact ih0 _ _ _
   | exact ih1 _ _ _ _
   | exact fullerref02_Check.mono _ _
   | exact fullerref02_Wide.mono _ _ _
   | exact LeO.none _
   | refine LeO.ite ?_ ?_
   | refine LeO.bind ?_ (fun _ => ?_)
theorem fullerref02_Join.mono : ∀ a0 a1 k, LeO (fullerref02_Join.f k a0 a1) (fullerref02_Join.f (k + 1) a0 a1) := by
 intro a0 a1 k
 obtain ⟨ih0, ih1⟩ := fullerref02_Join.mono_l k
 unfold fullerref02_Join.f
 repeat' first
   | (with_reducible exact ih0 _ _ _)
   | (with_reducible exact ih1 _ _ _ _)
   | (with_reducible exact fullerref02_Check.mono _ _)
   | (with_reducible exact fullerref02_Wide.mono _ _ _)
   | (with_reducible exact LeO.refl _)
   | (with_reducible exact LeO.none _)
   | (with_reducible refine LeO.ite ?_ ?_)
   | (with_reducible refine LeO.bind ?_ (fun _ => ?_))
   | exact ih0 _ _ _
   | exact ih1 _ _ _ _
   | exact fullerref02_Check.mono _ _
   | exact fullerref02_Wide.mono _ _ _
   | exact LeO.none _
   | refine LeO.ite ?_ ?_
   | refine LeO.bind ?_ (fun _ => ?_)
set_option maxHeartbeats 8000000 in
set_option maxRecDepth 100000 in
theorem fullerref02_Join.calls (k : Nat) (A0 : Option Addr) (c0 : Nat) (l0 : List Int) (A1 : Option Addr) (c1 : Nat) (l1 : List Int) (r1 : List Int) (r2 : Int) (w : World) (hr0 : Kd.C (Kd.int .i64) w A0 l0.length l0) (hc0 : l0.length ≤ c0) (hr1 : Kd.C (Kd.int .i64) w A1 l1.length l1) (hc1 : l1.length ≤ c1) (h : fullerref02_Join.f k l0 l1 = some (r1, r2)) :
  Calls Try.prog 46 #[.slice A0 l0.length c0, .slice A1 l1.length c1] w fun e w' => ∃ v0_ : Value, e = .returned (.tuple #[v0_, .int .i64 r2]) ∧ Kd.R (Kd.int .i64) 3 w' w.heap.size (fun _ => True) v0_ r1 ∧ Below w.heap.size w w' := by
 have HR0 := Aside0.mk hr0
 have HC0 := Aside0.mk hc0
 clear hr0 hc0
 have HR1 := Aside0.mk hr1
 have HC1 := Aside0.mk hc1
 clear hr1 hc1
 have HB := Aside0.mk (Below.refl w.heap.size w)
 have H : ((fullerref02_Check.f k l0).bind fun t294 => ((fullerref02_Check.f k l1).bind fun t295 => (if t294 = true then (fullerref02_Join.j0 k l0 l1 (!t295)) else (fullerref02_Join.j0 k l0 l1 true)))) = some (r1, r2) := h
 clear h
 replace H := Option.bind_eq_some_iff.mp H
 obtain ⟨t294, A30, H⟩ := H
 replace H : ((fullerref02_Check.f k l1).bind fun t295 => (if t294 = true then (fullerref02_Join.j0 k l0 l1 (!t295)) else (fullerref02_Join.j0 k l0 l1 true))) = some (r1, r2) := H
 have A3 := Aside0.mk A30
 clear A30
 replace H := Option.bind_eq_some_iff.mp H
 obtain ⟨t295, A40, H⟩ := H
 replace H : (if t294 = true then (fullerref02_Join.j0 k l0 l1 (!t295)) else (fullerref02_Join.j0 k l0 l1 true)) = some (r1, r2) := H
 have A4 := Aside0.mk A40
 clear A40
 have HC5 := Aside0.mk H
 clear H
 go_enter Try.func46, Try.ntmps46
 go_upto_region 3 with (first | (go_at_call 31; (with_reducible refine (fullerref02_Check.calls k _ _ l0 t294 _ ?side1 ?side2 A3.out).mono ?_); (case side1 => exact mvC_ (HR0.out)); (case side2 => exact HC0.out); rintro e w' ⟨rfl, ⟨nd, rfl⟩⟩; (try first | exact ⟨rfl, _, World.drewN_drewN _ _ _⟩ | exact ⟨rfl, _, Eq.trans (World.drewN_drewN _ _ _) (congrArg (World.drewN _) (Nat.add_assoc _ _ _))⟩)) | (go_at_call 31; (with_reducible refine (fullerref02_Check.calls k _ _ l1 t295 _ ?side1 ?side2 A4.out).mono ?_); (case side1 => exact mvC_ (HR1.out)); (case side2 => exact HC1.out); rintro e w' ⟨rfl, ⟨nd, rfl⟩⟩; (try first | exact ⟨rfl, _, World.drewN_drewN _ _ _⟩ | exact ⟨rfl, _, Eq.trans (World.drewN_drewN _ _ _) (congrArg (World.drewN _) (Nat.add_assoc _ _ _))⟩)))
 repeat (go_quiet (first | (go_at_call 31; (with_reducible refine (fullerref02_Check.calls k _ _ l0 t294 _ ?side1 ?side2 A3.out).mono ?_); (case side1 => exact mvC_ (HR0.out)); (case side2 => exact HC0.out); rintro e w' ⟨rfl, ⟨nd, rfl⟩⟩; (try first | exact ⟨rfl, _, World.drewN_drewN _ _ _⟩ | exact ⟨rfl, _, Eq.trans (World.drewN_drewN _ _ _) (congrArg (World.drewN _) (Nat.add_assoc _ _ _))⟩)) | (go_at_call 31; (with_reducible refine (fullerref02_Check.calls k _ _ l1 t295 _ ?side1 ?side2 A4.out).mono ?_); (case side1 => exact mvC_ (HR1.out)); (case side2 => exact HC1.out); rintro e w' ⟨rfl, ⟨nd, rfl⟩⟩; (try first | exact ⟨rfl, _, World.drewN_drewN _ _ _⟩ | exact ⟨rfl, _, Eq.trans (World.drewN_drewN _ _ _) (congrArg (World.drewN _) (Nat.add_assoc _ _ _))⟩))); go_upto_region 3 with (first | (go_at_call 31; (with_reducible refine (fullerref02_Check.calls k _ _ l0 t294 _ ?side1 ?side2 A3.out).mono ?_); (case side1 => exact mvC_ (HR0.out)); (case side2 => exact HC0.out); rintro e w' ⟨rfl, ⟨nd, rfl⟩⟩; (try first | exact ⟨rfl, _, World.drewN_drewN _ _ _⟩ | exact ⟨rfl, _, Eq.trans (World.drewN_drewN _ _ _) (congrArg (World.drewN _) (Nat.add_assoc _ _ _))⟩)) | (go_at_call 31; (with_reducible refine (fullerref02_Check.calls k _ _ l1 t295 _ ?side1 ?side2 A4.out).mono ?_); (case side1 => exact mvC_ (HR1.out)); (case side2 => exact HC1.out); rintro e w' ⟨rfl, ⟨nd, rfl⟩⟩; (try first | exact ⟨rfl, _, World.drewN_drewN _ _ _⟩ | exact ⟨rfl, _, Eq.trans (World.drewN_drewN _ _ _) (congrArg (World.drewN _) (Nat.add_assoc _ _ _))⟩))))
 (try simp only [Act.put, sA_, sB_, sC_])
 go_cut [23] (fun v23 wc => ∃ (kq : Nat) (x23_4 : Bool), v23 = .bool x23_4 ∧ Aside0 (fullerref02_Join.j0 kq l0 l1 x23_4 = some (r1, r2)) ∧ Aside0 (kq ≤ k) ∧ Aside0 (Below w.heap.size w wc))
 case first =>
  have H := HC5.out
  clear HC5
  by_cases c6 : t294 = true
  ·subst c6
   have H1 : (fullerref02_Join.j0 k l0 l1 (!t295)) = some (r1, r2) := by rw [if_pos rfl] at H; exact H
   clear H
   have H := H1
   clear H1
   have H' := Aside0.mk H
   clear H
   go_wp2
   repeat (go_quiet (fail); try go_wp2)
   go_meet
   case rel => exact ⟨_, (!t295), (by first | rfl | (simp; done) | (simp [*]; done)), H', ⟨by first | omega | exact Nat.le_refl _⟩, ⟨by repeat (first | (with_reducible first | exact HB.out | apply below_alloc | apply pw_below_drewN | apply below_drew1) | exact HB.out)⟩⟩
  ·replace c6 := Bool.eq_false_iff.mpr c6
   subst c6
   have H1 : (fullerref02_Join.j0 k l0 l1 true) = some (r1, r2) := by rw [if_neg (show ¬ (false = true) by decide)] at H; exact H
   clear H
   have H := H1
   clear H1
   have H' := Aside0.mk H
   clear H
   go_wp2
   repeat (go_quiet (fail); try go_wp2)
   go_meet
   case rel => exact ⟨_, (true), (by first | rfl | (simp; done) | (simp [*]; done)), H', ⟨by first | omega | exact Nat.le_refl _⟩, ⟨by repeat (first | (with_reducible first | exact HB.out | apply below_alloc | apply pw_below_drewN | apply below_drew1) | exact HB.out)⟩⟩
 case rest =>
  clear HC5
  try clear c1
  try clear p2
  try clear c4
  try clear c6
  obtain ⟨kq, x23_4, rfl, HA, HJ4, HB⟩ := hcut
  cases kq with
  | zero => exact absurd HA.out (by simp [fullerref02_Join.j0])
  | succ kj4 =>
   have H := HA.out
   clear HA
   simp only [fullerref02_Join.j0] at H
   by_cases c7 : x23_4 = true
   ·subst c7
    have H1 : (some (([] : List Int), 20)) = some (r1, r2) := by rw [if_pos rfl] at H; exact H
    clear H
    have H := H1
    clear H1
    simp only [Option.some.injEq, Prod.mk.injEq] at H
    obtain ⟨rfl, rfl⟩ := H
    go_wp2
    repeat (go_quiet (fail); try go_wp2)
    go_ret2
    exact ⟨_, by first | rfl | (simp [errW_none, errW_some] <;> rfl) | (simp [*, errW_none, errW_some] <;> rfl), by first | exact Kd.R_nil _ _ _ _ _ | exact Kd.N_nil _ _ _ _ _ | exact Kd.V_nil _ _ _ _ _ | exact Kd.Q_nil _ _ _ _ _ | exact Kd.S_nil _ _ _ _ _, by repeat (first | (with_reducible first | exact HB.out | apply below_alloc | apply pw_below_drewN | apply below_drew1) | exact HB.out)⟩
   ·replace c7 := Bool.eq_false_iff.mpr c7
    subst c7
    have H1 : ((fullerref02_Wide.f kj4 l0 (l1.length : Int)).bind fun t296 => ((fullerref02_Wide.f kj4 l1 (l0.length : Int)).bind fun t299 => (fullerref02_Join.l0 kj4 t296 t299 ([] : List Int) 0))) = some (r1, r2) := by rw [if_neg (show ¬ (false = true) by decide)] at H; exact H
    clear H
    have H := H1
    clear H1
    replace H := Option.bind_eq_some_iff.mp H
    obtain ⟨t296, A80, H⟩ := H
    replace H : ((fullerref02_Wide.f kj4 l1 (l0.length : Int)).bind fun t299 => (fullerref02_Join.l0 kj4 t296 t299 ([] : List Int) 0)) = some (r1, r2) := H
    have A8 := Aside0.mk A80
    clear A80
    replace H := Option.bind_eq_some_iff.mp H
    obtain ⟨t299, A90, H⟩ := H
    replace H : (fullerref02_Join.l0 kj4 t296 t299 ([] : List Int) 0) = some (r1, r2) := H
    have A9 := Aside0.mk A90
    clear A90
    have H' := Aside0.mk H
    clear H
    go_wp2_with (first | (go_at_call 51; (with_reducible refine (fullerref02_Wide.calls kj4 _ _ l0 (l1.length : Int) t296 _ ?side1 ?side2 A8.out).mono ?_); (case side1 => exact mvC_ ((Kd.C_below HR0.out HB.out))); (case side2 => exact HC0.out); rintro e w10 ⟨v297, rfl, ho0, hb⟩; have n0_ := Aside0.mk (Kd.R_lower ho0 (below_size (bq0_ HB.out))); have n1_ := Aside0.mk (below_step (bq0_ HB.out) hb); clear HB; have HO298 := n0_; have HB := n1_; clear n0_ n1_; (try clear hb); (try clear ho0)) | (go_at_call 51; (with_reducible refine (fullerref02_Wide.calls kj4 _ _ l1 (l0.length : Int) t299 _ ?side1 ?side2 A9.out).mono ?_); (case side1 => exact mvC_ ((Kd.C_below HR1.out HB.out))); (case side2 => exact HC1.out); rintro e w11 ⟨v300, rfl, ho0, hb⟩; have n0_ := Aside0.mk (Kd.R_elder' (mvR_ HO298.out) (Kd.R_base ho0) hb); have n1_ := Aside0.mk (Kd.R_lower (Kd.R_new' ho0 (Kd.R_lt (mvR_ HO298.out))) (below_size (bq0_ HB.out))); have n2_ := Aside0.mk (below_step (bq0_ HB.out) hb); clear HO298; clear HB; have HO298 := n0_; have HO301 := n1_; have HB := n2_; clear n0_ n1_ n2_; (try clear hb); (try clear ho0)))
    repeat (go_quiet (first | (go_at_call 51; (with_reducible refine (fullerref02_Wide.calls kj4 _ _ l0 (l1.length : Int) t296 _ ?side1 ?side2 A8.out).mono ?_); (case side1 => exact mvC_ ((Kd.C_below HR0.out HB.out))); (case side2 => exact HC0.out); rintro e w10 ⟨v297, rfl, ho0, hb⟩; have n0_ := Aside0.mk (Kd.R_lower ho0 (below_size (bq0_ HB.out))); have n1_ := Aside0.mk (below_step (bq0_ HB.out) hb); clear HB; have HO298 := n0_; have HB := n1_; clear n0_ n1_; (try clear hb); (try clear ho0)) | (go_at_call 51; (with_reducible refine (fullerref02_Wide.calls kj4 _ _ l1 (l0.length : Int) t299 _ ?side1 ?side2 A9.out).mono ?_); (case side1 => exact mvC_ ((Kd.C_below HR1.out HB.out))); (case side2 => exact HC1.out); rintro e w11 ⟨v300, rfl, ho0, hb⟩; have n0_ := Aside0.mk (Kd.R_elder' (mvR_ HO298.out) (Kd.R_base ho0) hb); have n1_ := Aside0.mk (Kd.R_lower (Kd.R_new' ho0 (Kd.R_lt (mvR_ HO298.out))) (below_size (bq0_ HB.out))); have n2_ := Aside0.mk (below_step (bq0_ HB.out) hb); clear HO298; clear HB; have HO298 := n0_; have HO301 := n1_; have HB := n2_; clear n0_ n1_ n2_; (try clear hb); (try clear ho0))); try go_wp2_with (first | (go_at_call 51; (with_reducible refine (fullerref02_Wide.calls kj4 _ _ l0 (l1.length : Int) t296 _ ?side1 ?side2 A8.out).mono ?_); (case side1 => exact mvC_ ((Kd.C_below HR0.out HB.out))); (case side2 => exact HC0.out); rintro e w10 ⟨v297, rfl, ho0, hb⟩; have n0_ := Aside0.mk (Kd.R_lower ho0 (below_size (bq0_ HB.out))); have n1_ := Aside0.mk (below_step (bq0_ HB.out) hb); clear HB; have HO298 := n0_; have HB := n1_; clear n0_ n1_; (try clear hb); (try clear ho0)) | (go_at_call 51; (with_reducible refine (fullerref02_Wide.calls kj4 _ _ l1 (l0.length : Int) t299 _ ?side1 ?side2 A9.out).mono ?_); (case side1 => exact mvC_ ((Kd.C_below HR1.out HB.out))); (case side2 => exact HC1.out); rintro e w11 ⟨v300, rfl, ho0, hb⟩; have n0_ := Aside0.mk (Kd.R_elder' (mvR_ HO298.out) (Kd.R_base ho0) hb); have n1_ := Aside0.mk (Kd.R_lower (Kd.R_new' ho0 (Kd.R_lt (mvR_ HO298.out))) (below_size (bq0_ HB.out))); have n2_ := Aside0.mk (below_step (bq0_ HB.out) hb); clear HO298; clear HB; have HO298 := n0_; have HO301 := n1_; have HB := n2_; clear n0_ n1_ n2_; (try clear hb); (try clear ho0))))
    go_loopg [10, 11] kj4 (fun kq v10 v11 w' => ∃ (x10_2 : List Int) (x11_2 : Int), v11 = .int .i64 x11_2 ∧ Aside0 (fullerref02_Join.l0 kq t296 t299 x10_2 x11_2 = some (r1, r2)) ∧ Aside0 (kq ≤ kj4) ∧ Aside0 (Kd.R (Kd.int .i64) 3 w' w.heap.size (fun k_ => some k_ ≠ (v300 : Value).ownBlock ∧ some k_ ≠ (v10 : Value).ownBlock) v297 t296) ∧ Aside0 (Kd.R (Kd.int .i64) 3 w' w.heap.size (fun k_ => some k_ ≠ (v297 : Value).ownBlock ∧ some k_ ≠ (v10 : Value).ownBlock) v300 t299) ∧ Aside0 (Kd.R (Kd.int .i64) 3 w' w.heap.size (fun k_ => some k_ ≠ (v297 : Value).ownBlock ∧ some k_ ≠ (v300 : Value).ownBlock) v10 x10_2) ∧ Aside0 (Below w.heap.size w w'))
    case atStart => exact ⟨(([] : List Int)), (0), (by first | rfl | (simp; done) | (simp [*]; done)), H', ⟨Nat.le_refl _⟩, ⟨by (with_reducible repeat (first | apply Kd.R_alloc | apply Kd.R_drewN | apply Kd.R_drew)); exact Kd.R_mono HO298.out (fun _ hk => ⟨hk.2, (by simp [Value.ownBlock])⟩)⟩, ⟨by (with_reducible repeat (first | apply Kd.R_alloc | apply Kd.R_drewN | apply Kd.R_drew)); exact Kd.R_mono HO301.out (fun _ hk => ⟨hk.2, (by simp [Value.ownBlock])⟩)⟩, ⟨by first | exact Kd.R_nil _ _ _ _ _ | exact Kd.N_nil _ _ _ _ _ | exact Kd.V_nil _ _ _ _ _ | exact Kd.Q_nil _ _ _ _ _ | exact Kd.S_nil _ _ _ _ _⟩, ⟨by repeat (first | (with_reducible first | exact HB.out | apply below_alloc | apply pw_below_drewN | apply below_drew1) | exact HB.out)⟩⟩
    case round =>
     clear H'
     try clear c1
     try clear p2
     try clear c4
     try clear c6
     try clear c7
     try clear p2
     obtain ⟨x10_2, x11_2, rfl, HA, HK2, HO_8, HO_9, HO_10, HB⟩ := hrel
     cases gk with
     | zero => exact absurd HA.out (by simp [fullerref02_Join.l0])
     | succ k2 =>
      have H := HA.out
      clear HA
      simp only [fullerref02_Join.l0] at H
      by_cases c12 : x11_2 < (t296.length : Int)
      ·rw [if_pos c12] at H
       have c12b0 : decide (x11_2 < (t296.length : Int)) = true := decide_eq_true c12
       clear c12
       by_cases c13 : 0 ≤ x11_2
       ·rw [if_pos c13] at H
        have c13b0 : decide (0 ≤ x11_2) = true := decide_eq_true c13
        clear c13
        by_cases c14 : x11_2 < (t299.length : Int)
        ·rw [if_pos c14] at H
         have c14b0 : decide (x11_2 < (t299.length : Int)) = true := decide_eq_true c14
         clear c14
         obtain ⟨ji15, hji15⟩ : ∃ j_ : Int, (mx (rd t296 x11_2) (rd t299 x11_2)) = j_ := ⟨_, rfl⟩
         replace H : (if (rd t296 x11_2) = 1 then (if (rd t299 x11_2) = 1 then (if x10_2.length < 17592186044416 then (fullerref02_Join.l0 k2 t296 t299 (x10_2 ++ [ji15]) (wrap64 (x11_2 + 1))) else (none)) else (if (rd t299 x11_2) = (ji15) then (if x10_2.length < 17592186044416 then (fullerref02_Join.l0 k2 t296 t299 (x10_2 ++ [ji15]) (wrap64 (x11_2 + 1))) else (none)) else (some (([] : List Int), 20)))) else (if (rd t296 x11_2) = (ji15) then (if (rd t299 x11_2) = 1 then (if x10_2.length < 17592186044416 then (fullerref02_Join.l0 k2 t296 t299 (x10_2 ++ [ji15]) (wrap64 (x11_2 + 1))) else (none)) else (if (rd t299 x11_2) = (ji15) then (if x10_2.length < 17592186044416 then (fullerref02_Join.l0 k2 t296 t299 (x10_2 ++ [ji15]) (wrap64 (x11_2 + 1))) else (none)) else (some (([] : List Int), 20)))) else (some (([] : List Int), 20)))) = some (r1, r2) := by first | (rw [hji15] at H; exact H) | (simp only [hji15] at H ⊢; exact H)
         have hji15_ : (if (rd t296 x11_2) < (rd t299 x11_2) then (rd t299 x11_2) else (rd t296 x11_2)) = ji15 := hji15
         by_cases c16 : (rd t296 x11_2) = 1
         ·rw [if_pos c16] at H
          have c16b0 : ((rd t296 x11_2) == 1) = true := beq_iff_eq.mpr c16
          have c16b1 : ((rd t296 x11_2) != 1) = false := bne_eq_false_iff_eq.mpr c16
          clear c16
          by_cases c17 : (rd t299 x11_2) = 1
          ·rw [if_pos c17] at H
           have c17b0 : ((rd t299 x11_2) == 1) = true := beq_iff_eq.mpr c17
           have c17b1 : ((rd t299 x11_2) != 1) = false := bne_eq_false_iff_eq.mpr c17
           clear c17
           by_cases c18 : x10_2.length < 17592186044416
           ·rw [if_pos c18] at H
            have LMc18 := Aside0.mk c18
            clear c18
            obtain ⟨y306, hy306⟩ : ∃ y_ : List Int, y_ = (x10_2 ++ [ji15]) := ⟨_, rfl⟩
            replace H : (fullerref02_Join.l0 k2 t296 t299 y306 (wrap64 (x11_2 + 1))) = some (r1, r2) := by first | (rw [hy306]; with_reducible exact H) | (have H2_ := (Option.bind_some _ _).symm.trans H; rw [hy306]; with_reducible exact H2_) | (have H2_ := (Option.bind_some _ _).symm.trans H; with_reducible exact H2_) | with_reducible exact H | (rw [hy306]; exact H) | exact H
            have Ny306 := Aside0.mk hy306
            clear hy306
            have H' := Aside0.mk H
            clear H
            obtain ⟨Ao19, co19, eo19⟩ := Kd.R_slice HO_8.out
            subst eo19
            have p302 : 0 ≤ (x11_2 : Int) := od_
            have q302 : x11_2 < (t296.length : Int) := od_
            obtain ⟨ad302, e302, hx302_0⟩ := Kd.at_int (Kd.R_reads' HO_8.out).2.2 x11_2 p302 q302
            cases e302
            replace p302 := eq_true p302
            replace q302 := eq_true q302
            obtain ⟨Ao20, co20, eo20⟩ := Kd.R_slice HO_9.out
            subst eo20
            have p303 : 0 ≤ (x11_2 : Int) := od_
            have q303 : x11_2 < (t299.length : Int) := od_
            obtain ⟨ad303, e303, hx303_0⟩ := Kd.at_int (Kd.R_reads' HO_9.out).2.2 x11_2 p303 q303
            cases e303
            replace p303 := eq_true p303
            replace q303 := eq_true q303
            have p304 : 0 ≤ (x11_2 : Int) := od_
            have q304 : x11_2 < (t296.length : Int) := od_
            obtain ⟨ad304, e304, hx304_0⟩ := Kd.at_int (Kd.R_reads' HO_8.out).2.2 x11_2 p304 q304
            obtain rfl : ad302 = ad304 := (by injection e304)
            replace p304 := eq_true p304
            replace q304 := eq_true q304
            have p305 : 0 ≤ (x11_2 : Int) := od_
            have q305 : x11_2 < (t299.length : Int) := od_
            obtain ⟨ad305, e305, hx305_0⟩ := Kd.at_int (Kd.R_reads' HO_9.out).2.2 x11_2 p305 q305
            obtain rfl : ad303 = ad305 := (by injection e305)
            replace p305 := eq_true p305
            replace q305 := eq_true q305
            go_wp2_with (first | ((with_reducible refine gate_builtin (b := .append) (xs := #[.tmp 75, .tmp 77]) rfl ?_); at_builtin; refine Kd.R_append (Kd.int .i64) (w0 := w) w.heap.size rfl (.tmp 75) (.tmp 77) 22 3 (.int .i64 0) 8 rfl Try.underlying22 info3 rfl (by decide) (by omega) u10 x10_2 ji15 [.int .i64 ji15] (fun k_ => some k_ ≠ (.slice (some ad302) t296.length co19 : Value).ownBlock ∧ some k_ ≠ (.slice (some ad303) t299.length co20 : Value).ownBlock) (fun _ => False) rfl rfl ?aP (fun _ hk => hk.elim) ?aF ?aO ?aB ?aS ?aL ?_; (case aP => exact rfl); (case aB => exact (bq0_ HB.out)); (case aF => exact (fun k_ hk => ⟨Kd.fresh' (Kd.R_lt (mvR_ HO_8.out)) k_ hk, Kd.fresh' (Kd.R_lt (mvR_ HO_9.out)) k_ hk⟩)); (case aO => exact (mvR_ HO_10.out)); (case aS => exact (below_size (bq0_ HB.out))); (case aL => have := LMc18.out; omega); intro v307 w21 ho hb hg hat; rw [← Ny306.out] at ho; have n0_ := Aside0.mk (Kd.R_after (ok := (fun k_ => some k_ ≠ (.slice (some ad303) t299.length co20 : Value).ownBlock)) (mvR_ HO_8.out) hg hat); have n1_ := Aside0.mk (Kd.R_after (ok := (fun k_ => some k_ ≠ (.slice (some ad302) t296.length co19 : Value).ownBlock)) (mvR_ HO_9.out) hg hat); have n2_ := Aside0.mk (hb); have n3_ := Aside0.mk (ho); clear HO_8; clear HO_9; clear HB; clear HO_10; have HO_8 := n0_; have HO_9 := n1_; have HB := n2_; have HO308 := n3_; clear n0_ n1_ n2_ n3_; clear ho hb hg hat))
            repeat (go_quiet (first | ((with_reducible refine gate_builtin (b := .append) (xs := #[.tmp 75, .tmp 77]) rfl ?_); at_builtin; refine Kd.R_append (Kd.int .i64) (w0 := w) w.heap.size rfl (.tmp 75) (.tmp 77) 22 3 (.int .i64 0) 8 rfl Try.underlying22 info3 rfl (by decide) (by omega) u10 x10_2 ji15 [.int .i64 ji15] (fun k_ => some k_ ≠ (.slice (some ad302) t296.length co19 : Value).ownBlock ∧ some k_ ≠ (.slice (some ad303) t299.length co20 : Value).ownBlock) (fun _ => False) rfl rfl ?aP (fun _ hk => hk.elim) ?aF ?aO ?aB ?aS ?aL ?_; (case aP => exact rfl); (case aB => exact (bq0_ HB.out)); (case aF => exact (fun k_ hk => ⟨Kd.fresh' (Kd.R_lt (mvR_ HO_8.out)) k_ hk, Kd.fresh' (Kd.R_lt (mvR_ HO_9.out)) k_ hk⟩)); (case aO => exact (mvR_ HO_10.out)); (case aS => exact (below_size (bq0_ HB.out))); (case aL => have := LMc18.out; omega); intro v307 w21 ho hb hg hat; rw [← Ny306.out] at ho; have n0_ := Aside0.mk (Kd.R_after (ok := (fun k_ => some k_ ≠ (.slice (some ad303) t299.length co20 : Value).ownBlock)) (mvR_ HO_8.out) hg hat); have n1_ := Aside0.mk (Kd.R_after (ok := (fun k_ => some k_ ≠ (.slice (some ad302) t296.length co19 : Value).ownBlock)) (mvR_ HO_9.out) hg hat); have n2_ := Aside0.mk (hb); have n3_ := Aside0.mk (ho); clear HO_8; clear HO_9; clear HB; clear HO_10; have HO_8 := n0_; have HO_9 := n1_; have HB := n2_; have HO308 := n3_; clear n0_ n1_ n2_ n3_; clear ho hb hg hat)); try go_wp2_with (first | ((with_reducible refine gate_builtin (b := .append) (xs := #[.tmp 75, .tmp 77]) rfl ?_); at_builtin; refine Kd.R_append (Kd.int .i64) (w0 := w) w.heap.size rfl (.tmp 75) (.tmp 77) 22 3 (.int .i64 0) 8 rfl Try.underlying22 info3 rfl (by decide) (by omega) u10 x10_2 ji15 [.int .i64 ji15] (fun k_ => some k_ ≠ (.slice (some ad302) t296.length co19 : Value).ownBlock ∧ some k_ ≠ (.slice (some ad303) t299.length co20 : Value).ownBlock) (fun _ => False) rfl rfl ?aP (fun _ hk => hk.elim) ?aF ?aO ?aB ?aS ?aL ?_; (case aP => exact rfl); (case aB => exact (bq0_ HB.out)); (case aF => exact (fun k_ hk => ⟨Kd.fresh' (Kd.R_lt (mvR_ HO_8.out)) k_ hk, Kd.fresh' (Kd.R_lt (mvR_ HO_9.out)) k_ hk⟩)); (case aO => exact (mvR_ HO_10.out)); (case aS => exact (below_size (bq0_ HB.out))); (case aL => have := LMc18.out; omega); intro v307 w21 ho hb hg hat; rw [← Ny306.out] at ho; have n0_ := Aside0.mk (Kd.R_after (ok := (fun k_ => some k_ ≠ (.slice (some ad303) t299.length co20 : Value).ownBlock)) (mvR_ HO_8.out) hg hat); have n1_ := Aside0.mk (Kd.R_after (ok := (fun k_ => some k_ ≠ (.slice (some ad302) t296.length co19 : Value).ownBlock)) (mvR_ HO_9.out) hg hat); have n2_ := Aside0.mk (hb); have n3_ := Aside0.mk (ho); clear HO_8; clear HO_9; clear HB; clear HO_10; have HO_8 := n0_; have HO_9 := n1_; have HB := n2_; have HO308 := n3_; clear n0_ n1_ n2_ n3_; clear ho hb hg hat)))
            go_roundg k2
            case measure => have := HJ4.out; have := HK2.out; omega
            case rel => exact ⟨(y306), (wrap64 (x11_2 + 1)), (by first | rfl | (simp; done) | (simp [*]; done)), H', ⟨by have := HJ4.out; have := HK2.out; omega⟩, ⟨by (with_reducible repeat (first | apply Kd.R_alloc | apply Kd.R_drewN | apply Kd.R_drew)); exact HO_8.out⟩, ⟨by (with_reducible repeat (first | apply Kd.R_alloc | apply Kd.R_drewN | apply Kd.R_drew)); exact HO_9.out⟩, ⟨by (with_reducible repeat (first | apply Kd.R_alloc | apply Kd.R_drewN | apply Kd.R_drew)); exact HO308.out⟩, ⟨by repeat (first | (with_reducible first | exact HB.out | apply below_alloc | apply pw_below_drewN | apply below_drew1) | exact HB.out)⟩⟩
           ·rw [if_neg c18] at H
            exact absurd H (by simp)
          ·rw [if_neg c17] at H
           have c17b0 : ((rd t299 x11_2) == 1) = false := beq_eq_false_iff_ne.mpr c17
           have c17b1 : ((rd t299 x11_2) != 1) = true := bne_iff_ne.mpr c17
           by_cases c22 : (rd t299 x11_2) = (ji15)
           ·rw [if_pos c22] at H
            have c22b0 : ((rd t299 x11_2) == (ji15)) = true := beq_iff_eq.mpr c22
            have c22b1 : ((rd t299 x11_2) != (ji15)) = false := bne_eq_false_iff_eq.mpr c22
            clear c22
            by_cases c23 : x10_2.length < 17592186044416
            ·rw [if_pos c23] at H
             have LMc23 := Aside0.mk c23
             clear c23
             obtain ⟨y310, hy310⟩ : ∃ y_ : List Int, y_ = (x10_2 ++ [ji15]) := ⟨_, rfl⟩
             replace H : (fullerref02_Join.l0 k2 t296 t299 y310 (wrap64 (x11_2 + 1))) = some (r1, r2) := by first | (rw [hy310]; with_reducible exact H) | (have H2_ := (Option.bind_some _ _).symm.trans H; rw [hy310]; with_reducible exact H2_) | (have H2_ := (Option.bind_some _ _).symm.trans H; with_reducible exact H2_) | with_reducible exact H | (rw [hy310]; exact H) | exact H
             have Ny310 := Aside0.mk hy310
             clear hy310
             have H' := Aside0.mk H
             clear H
             obtain ⟨Ao24, co24, eo24⟩ := Kd.R_slice HO_8.out
             subst eo24
             have p302 : 0 ≤ (x11_2 : Int) := od_
             have q302 : x11_2 < (t296.length : Int) := od_
             obtain ⟨ad302, e302, hx302_0⟩ := Kd.at_int (Kd.R_reads' HO_8.out).2.2 x11_2 p302 q302
             cases e302
             replace p302 := eq_true p302
             replace q302 := eq_true q302
             obtain ⟨Ao25, co25, eo25⟩ := Kd.R_slice HO_9.out
             subst eo25
             have p303 : 0 ≤ (x11_2 : Int) := od_
             have q303 : x11_2 < (t299.length : Int) := od_
             obtain ⟨ad303, e303, hx303_0⟩ := Kd.at_int (Kd.R_reads' HO_9.out).2.2 x11_2 p303 q303
             cases e303
             replace p303 := eq_true p303
             replace q303 := eq_true q303
             have p304 : 0 ≤ (x11_2 : Int) := od_
             have q304 : x11_2 < (t296.length : Int) := od_
             obtain ⟨ad304, e304, hx304_0⟩ := Kd.at_int (Kd.R_reads' HO_8.out).2.2 x11_2 p304 q304
             obtain rfl : ad302 = ad304 := (by injection e304)
             replace p304 := eq_true p304
             replace q304 := eq_true q304
             have p305 : 0 ≤ (x11_2 : Int) := od_
             have q305 : x11_2 < (t299.length : Int) := od_
             obtain ⟨ad305, e305, hx305_0⟩ := Kd.at_int (Kd.R_reads' HO_9.out).2.2 x11_2 p305 q305
             obtain rfl : ad303 = ad305 := (by injection e305)
             replace p305 := eq_true p305
             replace q305 := eq_true q305
             have p309 : 0 ≤ (x11_2 : Int) := od_
             have q309 : x11_2 < (t299.length : Int) := od_
             obtain ⟨ad309, e309, hx309_0⟩ := Kd.at_int (Kd.R_reads' HO_9.out).2.2 x11_2 p309 q309
             obtain rfl : ad303 = ad309 := (by injection e309)
             replace p309 := eq_true p309
             replace q309 := eq_true q309
             go_wp2_with (first | ((with_reducible refine gate_builtin (b := .append) (xs := #[.tmp 75, .tmp 77]) rfl ?_); at_builtin; refine Kd.R_append (Kd.int .i64) (w0 := w) w.heap.size rfl (.tmp 75) (.tmp 77) 22 3 (.int .i64 0) 8 rfl Try.underlying22 info3 rfl (by decide) (by omega) u10 x10_2 ji15 [.int .i64 ji15] (fun k_ => some k_ ≠ (.slice (some ad302) t296.length co24 : Value).ownBlock ∧ some k_ ≠ (.slice (some ad303) t299.length co25 : Value).ownBlock) (fun _ => False) rfl rfl ?aP (fun _ hk => hk.elim) ?aF ?aO ?aB ?aS ?aL ?_; (case aP => exact rfl); (case aB => exact (bq0_ HB.out)); (case aF => exact (fun k_ hk => ⟨Kd.fresh' (Kd.R_lt (mvR_ HO_8.out)) k_ hk, Kd.fresh' (Kd.R_lt (mvR_ HO_9.out)) k_ hk⟩)); (case aO => exact (mvR_ HO_10.out)); (case aS => exact (below_size (bq0_ HB.out))); (case aL => have := LMc23.out; omega); intro v311 w26 ho hb hg hat; rw [← Ny310.out] at ho; have n0_ := Aside0.mk (Kd.R_after (ok := (fun k_ => some k_ ≠ (.slice (some ad303) t299.length co25 : Value).ownBlock)) (mvR_ HO_8.out) hg hat); have n1_ := Aside0.mk (Kd.R_after (ok := (fun k_ => some k_ ≠ (.slice (some ad302) t296.length co24 : Value).ownBlock)) (mvR_ HO_9.out) hg hat); have n2_ := Aside0.mk (hb); have n3_ := Aside0.mk (ho); clear HO_8; clear HO_9; clear HB; clear HO_10; have HO_8 := n0_; have HO_9 := n1_; have HB := n2_; have HO312 := n3_; clear n0_ n1_ n2_ n3_; clear ho hb hg hat))
             repeat (go_quiet (first | ((with_reducible refine gate_builtin (b := .append) (xs := #[.tmp 75, .tmp 77]) rfl ?_); at_builtin; refine Kd.R_append (Kd.int .i64) (w0 := w) w.heap.size rfl (.tmp 75) (.tmp 77) 22 3 (.int .i64 0) 8 rfl Try.underlying22 info3 rfl (by decide) (by omega) u10 x10_2 ji15 [.int .i64 ji15] (fun k_ => some k_ ≠ (.slice (some ad302) t296.length co24 : Value).ownBlock ∧ some k_ ≠ (.slice (some ad303) t299.length co25 : Value).ownBlock) (fun _ => False) rfl rfl ?aP (fun _ hk => hk.elim) ?aF ?aO ?aB ?aS ?aL ?_; (case aP => exact rfl); (case aB => exact (bq0_ HB.out)); (case aF => exact (fun k_ hk => ⟨Kd.fresh' (Kd.R_lt (mvR_ HO_8.out)) k_ hk, Kd.fresh' (Kd.R_lt (mvR_ HO_9.out)) k_ hk⟩)); (case aO => exact (mvR_ HO_10.out)); (case aS => exact (below_size (bq0_ HB.out))); (case aL => have := LMc23.out; omega); intro v311 w26 ho hb hg hat; rw [← Ny310.out] at ho; have n0_ := Aside0.mk (Kd.R_after (ok := (fun k_ => some k_ ≠ (.slice (some ad303) t299.length co25 : Value).ownBlock)) (mvR_ HO_8.out) hg hat); have n1_ := Aside0.mk (Kd.R_after (ok := (fun k_ => some k_ ≠ (.slice (some ad302) t296.length co24 : Value).ownBlock)) (mvR_ HO_9.out) hg hat); have n2_ := Aside0.mk (hb); have n3_ := Aside0.mk (ho); clear HO_8; clear HO_9; clear HB; clear HO_10; have HO_8 := n0_; have HO_9 := n1_; have HB := n2_; have HO312 := n3_; clear n0_ n1_ n2_ n3_; clear ho hb hg hat)); try go_wp2_with (first | ((with_reducible refine gate_builtin (b := .append) (xs := #[.tmp 75, .tmp 77]) rfl ?_); at_builtin; refine Kd.R_append (Kd.int .i64) (w0 := w) w.heap.size rfl (.tmp 75) (.tmp 77) 22 3 (.int .i64 0) 8 rfl Try.underlying22 info3 rfl (by decide) (by omega) u10 x10_2 ji15 [.int .i64 ji15] (fun k_ => some k_ ≠ (.slice (some ad302) t296.length co24 : Value).ownBlock ∧ some k_ ≠ (.slice (some ad303) t299.length co25 : Value).ownBlock) (fun _ => False) rfl rfl ?aP (fun _ hk => hk.elim) ?aF ?aO ?aB ?aS ?aL ?_; (case aP => exact rfl); (case aB => exact (bq0_ HB.out)); (case aF => exact (fun k_ hk => ⟨Kd.fresh' (Kd.R_lt (mvR_ HO_8.out)) k_ hk, Kd.fresh' (Kd.R_lt (mvR_ HO_9.out)) k_ hk⟩)); (case aO => exact (mvR_ HO_10.out)); (case aS => exact (below_size (bq0_ HB.out))); (case aL => have := LMc23.out; omega); intro v311 w26 ho hb hg hat; rw [← Ny310.out] at ho; have n0_ := Aside0.mk (Kd.R_after (ok := (fun k_ => some k_ ≠ (.slice (some ad303) t299.length co25 : Value).ownBlock)) (mvR_ HO_8.out) hg hat); have n1_ := Aside0.mk (Kd.R_after (ok := (fun k_ => some k_ ≠ (.slice (some ad302) t296.length co24 : Value).ownBlock)) (mvR_ HO_9.out) hg hat); have n2_ := Aside0.mk (hb); have n3_ := Aside0.mk (ho); clear HO_8; clear HO_9; clear HB; clear HO_10; have HO_8 := n0_; have HO_9 := n1_; have HB := n2_; have HO312 := n3_; clear n0_ n1_ n2_ n3_; clear ho hb hg hat)))
             go_roundg k2
             case measure => have := HJ4.out; have := HK2.out; omega
             case rel => exact ⟨(y310), (wrap64 (x11_2 + 1)), (by first | rfl | (simp; done) | (simp [*]; done)), H', ⟨by have := HJ4.out; have := HK2.out; omega⟩, ⟨by (with_reducible repeat (first | apply Kd.R_alloc | apply Kd.R_drewN | apply Kd.R_drew)); exact HO_8.out⟩, ⟨by (with_reducible repeat (first | apply Kd.R_alloc | apply Kd.R_drewN | apply Kd.R_drew)); exact HO_9.out⟩, ⟨by (with_reducible repeat (first | apply Kd.R_alloc | apply Kd.R_drewN | apply Kd.R_drew)); exact HO312.out⟩, ⟨by repeat (first | (with_reducible first | exact HB.out | apply below_alloc | apply pw_below_drewN | apply below_drew1) | exact HB.out)⟩⟩
            ·rw [if_neg c23] at H
             exact absurd H (by simp)
           ·rw [if_neg c22] at H
            have c22b0 : ((rd t299 x11_2) == (ji15)) = false := beq_eq_false_iff_ne.mpr c22
            have c22b1 : ((rd t299 x11_2) != (ji15)) = true := bne_iff_ne.mpr c22
            simp only [Option.some.injEq, Prod.mk.injEq] at H
            obtain ⟨rfl, rfl⟩ := H
            obtain ⟨Ao27, co27, eo27⟩ := Kd.R_slice HO_8.out
            subst eo27
            have p302 : 0 ≤ (x11_2 : Int) := od_
            have q302 : x11_2 < (t296.length : Int) := od_
            obtain ⟨ad302, e302, hx302_0⟩ := Kd.at_int (Kd.R_reads' HO_8.out).2.2 x11_2 p302 q302
            cases e302
            replace p302 := eq_true p302
            replace q302 := eq_true q302
            obtain ⟨Ao28, co28, eo28⟩ := Kd.R_slice HO_9.out
            subst eo28
            have p303 : 0 ≤ (x11_2 : Int) := od_
            have q303 : x11_2 < (t299.length : Int) := od_
            obtain ⟨ad303, e303, hx303_0⟩ := Kd.at_int (Kd.R_reads' HO_9.out).2.2 x11_2 p303 q303
            cases e303
            replace p303 := eq_true p303
            replace q303 := eq_true q303
            have p304 : 0 ≤ (x11_2 : Int) := od_
            have q304 : x11_2 < (t296.length : Int) := od_
            obtain ⟨ad304, e304, hx304_0⟩ := Kd.at_int (Kd.R_reads' HO_8.out).2.2 x11_2 p304 q304
            obtain rfl : ad302 = ad304 := (by injection e304)
            replace p304 := eq_true p304
            replace q304 := eq_true q304
            have p305 : 0 ≤ (x11_2 : Int) := od_
            have q305 : x11_2 < (t299.length : Int) := od_
            obtain ⟨ad305, e305, hx305_0⟩ := Kd.at_int (Kd.R_reads' HO_9.out).2.2 x11_2 p305 q305
            obtain rfl : ad303 = ad305 := (by injection e305)
            replace p305 := eq_true p305
            replace q305 := eq_true q305
            have p309 : 0 ≤ (x11_2 : Int) := od_
            have q309 : x11_2 < (t299.length : Int) := od_
            obtain ⟨ad309, e309, hx309_0⟩ := Kd.at_int (Kd.R_reads' HO_9.out).2.2 x11_2 p309 q309
            obtain rfl : ad303 = ad309 := (by injection e309)
            replace p309 := eq_true p309
            replace q309 := eq_true q309
            go_wp2
            repeat (go_quiet (fail); try go_wp2)
            go_ret2
            exact ⟨_, by first | rfl | (simp [errW_none, errW_some] <;> rfl) | (simp only [← hji15]; first | rfl | (simp [errW_none, errW_some] <;> rfl)) | (simp [*, errW_none, errW_some] <;> rfl), by first | exact Kd.R_nil _ _ _ _ _ | exact Kd.N_nil _ _ _ _ _ | exact Kd.V_nil _ _ _ _ _ | exact Kd.Q_nil _ _ _ _ _ | exact Kd.S_nil _ _ _ _ _, by repeat (first | (with_reducible first | exact HB.out | apply below_alloc | apply pw_below_drewN | apply below_drew1) | exact HB.out)⟩
         ·rw [if_neg c16] at H
          have c16b0 : ((rd t296 x11_2) == 1) = false := beq_eq_false_iff_ne.mpr c16
          have c16b1 : ((rd t296 x11_2) != 1) = true := bne_iff_ne.mpr c16
          by_cases c29 : (rd t296 x11_2) = (ji15)
          ·rw [if_pos c29] at H
           have c29b0 : ((rd t296 x11_2) == (ji15)) = true := beq_iff_eq.mpr c29
           have c29b1 : ((rd t296 x11_2) != (ji15)) = false := bne_eq_false_iff_eq.mpr c29
           clear c29
           by_cases c30 : (rd t299 x11_2) = 1
           ·rw [if_pos c30] at H
            have c30b0 : ((rd t299 x11_2) == 1) = true := beq_iff_eq.mpr c30
            have c30b1 : ((rd t299 x11_2) != 1) = false := bne_eq_false_iff_eq.mpr c30
            clear c30
            by_cases c31 : x10_2.length < 17592186044416
            ·rw [if_pos c31] at H
             have LMc31 := Aside0.mk c31
             clear c31
             obtain ⟨y315, hy315⟩ : ∃ y_ : List Int, y_ = (x10_2 ++ [ji15]) := ⟨_, rfl⟩
             replace H : (fullerref02_Join.l0 k2 t296 t299 y315 (wrap64 (x11_2 + 1))) = some (r1, r2) := by first | (rw [hy315]; with_reducible exact H) | (have H2_ := (Option.bind_some _ _).symm.trans H; rw [hy315]; with_reducible exact H2_) | (have H2_ := (Option.bind_some _ _).symm.trans H; with_reducible exact H2_) | with_reducible exact H | (rw [hy315]; exact H) | exact H
             have Ny315 := Aside0.mk hy315
             clear hy315
             have H' := Aside0.mk H
             clear H
             obtain ⟨Ao32, co32, eo32⟩ := Kd.R_slice HO_8.out
             subst eo32
             have p302 : 0 ≤ (x11_2 : Int) := od_
             have q302 : x11_2 < (t296.length : Int) := od_
             obtain ⟨ad302, e302, hx302_0⟩ := Kd.at_int (Kd.R_reads' HO_8.out).2.2 x11_2 p302 q302
             cases e302
             replace p302 := eq_true p302
             replace q302 := eq_true q302
             obtain ⟨Ao33, co33, eo33⟩ := Kd.R_slice HO_9.out
             subst eo33
             have p303 : 0 ≤ (x11_2 : Int) := od_
             have q303 : x11_2 < (t299.length : Int) := od_
             obtain ⟨ad303, e303, hx303_0⟩ := Kd.at_int (Kd.R_reads' HO_9.out).2.2 x11_2 p303 q303
             cases e303
             replace p303 := eq_true p303
             replace q303 := eq_true q303
             have p304 : 0 ≤ (x11_2 : Int) := od_
             have q304 : x11_2 < (t296.length : Int) := od_
             obtain ⟨ad304, e304, hx304_0⟩ := Kd.at_int (Kd.R_reads' HO_8.out).2.2 x11_2 p304 q304
             obtain rfl : ad302 = ad304 := (by injection e304)
             replace p304 := eq_true p304
             replace q304 := eq_true q304
             have p313 : 0 ≤ (x11_2 : Int) := od_
             have q313 : x11_2 < (t296.length : Int) := od_
             obtain ⟨ad313, e313, hx313_0⟩ := Kd.at_int (Kd.R_reads' HO_8.out).2.2 x11_2 p313 q313
             obtain rfl : ad302 = ad313 := (by injection e313)
             replace p313 := eq_true p313
             replace q313 := eq_true q313
             have p314 : 0 ≤ (x11_2 : Int) := od_
             have q314 : x11_2 < (t299.length : Int) := od_
             obtain ⟨ad314, e314, hx314_0⟩ := Kd.at_int (Kd.R_reads' HO_9.out).2.2 x11_2 p314 q314
             obtain rfl : ad303 = ad314 := (by injection e314)
             replace p314 := eq_true p314
             replace q314 := eq_true q314
             go_wp2_with (first | ((with_reducible refine gate_builtin (b := .append) (xs := #[.tmp 75, .tmp 77]) rfl ?_); at_builtin; refine Kd.R_append (Kd.int .i64) (w0 := w) w.heap.size rfl (.tmp 75) (.tmp 77) 22 3 (.int .i64 0) 8 rfl Try.underlying22 info3 rfl (by decide) (by omega) u10 x10_2 ji15 [.int .i64 ji15] (fun k_ => some k_ ≠ (.slice (some ad302) t296.length co32 : Value).ownBlock ∧ some k_ ≠ (.slice (some ad303) t299.length co33 : Value).ownBlock) (fun _ => False) rfl rfl ?aP (fun _ hk => hk.elim) ?aF ?aO ?aB ?aS ?aL ?_; (case aP => exact rfl); (case aB => exact (bq0_ HB.out)); (case aF => exact (fun k_ hk => ⟨Kd.fresh' (Kd.R_lt (mvR_ HO_8.out)) k_ hk, Kd.fresh' (Kd.R_lt (mvR_ HO_9.out)) k_ hk⟩)); (case aO => exact (mvR_ HO_10.out)); (case aS => exact (below_size (bq0_ HB.out))); (case aL => have := LMc31.out; omega); intro v316 w34 ho hb hg hat; rw [← Ny315.out] at ho; have n0_ := Aside0.mk (Kd.R_after (ok := (fun k_ => some k_ ≠ (.slice (some ad303) t299.length co33 : Value).ownBlock)) (mvR_ HO_8.out) hg hat); have n1_ := Aside0.mk (Kd.R_after (ok := (fun k_ => some k_ ≠ (.slice (some ad302) t296.length co32 : Value).ownBlock)) (mvR_ HO_9.out) hg hat); have n2_ := Aside0.mk (hb); have n3_ := Aside0.mk (ho); clear HO_8; clear HO_9; clear HB; clear HO_10; have HO_8 := n0_; have HO_9 := n1_; have HB := n2_; have HO317 := n3_; clear n0_ n1_ n2_ n3_; clear ho hb hg hat))
             repeat (go_quiet (first | ((with_reducible refine gate_builtin (b := .append) (xs := #[.tmp 75, .tmp 77]) rfl ?_); at_builtin; refine Kd.R_append (Kd.int .i64) (w0 := w) w.heap.size rfl (.tmp 75) (.tmp 77) 22 3 (.int .i64 0) 8 rfl Try.underlying22 info3 rfl (by decide) (by omega) u10 x10_2 ji15 [.int .i64 ji15] (fun k_ => some k_ ≠ (.slice (some ad302) t296.length co32 : Value).ownBlock ∧ some k_ ≠ (.slice (some ad303) t299.length co33 : Value).ownBlock) (fun _ => False) rfl rfl ?aP (fun _ hk => hk.elim) ?aF ?aO ?aB ?aS ?aL ?_; (case aP => exact rfl); (case aB => exact (bq0_ HB.out)); (case aF => exact (fun k_ hk => ⟨Kd.fresh' (Kd.R_lt (mvR_ HO_8.out)) k_ hk, Kd.fresh' (Kd.R_lt (mvR_ HO_9.out)) k_ hk⟩)); (case aO => exact (mvR_ HO_10.out)); (case aS => exact (below_size (bq0_ HB.out))); (case aL => have := LMc31.out; omega); intro v316 w34 ho hb hg hat; rw [← Ny315.out] at ho; have n0_ := Aside0.mk (Kd.R_after (ok := (fun k_ => some k_ ≠ (.slice (some ad303) t299.length co33 : Value).ownBlock)) (mvR_ HO_8.out) hg hat); have n1_ := Aside0.mk (Kd.R_after (ok := (fun k_ => some k_ ≠ (.slice (some ad302) t296.length co32 : Value).ownBlock)) (mvR_ HO_9.out) hg hat); have n2_ := Aside0.mk (hb); have n3_ := Aside0.mk (ho); clear HO_8; clear HO_9; clear HB; clear HO_10; have HO_8 := n0_; have HO_9 := n1_; have HB := n2_; have HO317 := n3_; clear n0_ n1_ n2_ n3_; clear ho hb hg hat)); try go_wp2_with (first | ((with_reducible refine gate_builtin (b := .append) (xs := #[.tmp 75, .tmp 77]) rfl ?_); at_builtin; refine Kd.R_append (Kd.int .i64) (w0 := w) w.heap.size rfl (.tmp 75) (.tmp 77) 22 3 (.int .i64 0) 8 rfl Try.underlying22 info3 rfl (by decide) (by omega) u10 x10_2 ji15 [.int .i64 ji15] (fun k_ => some k_ ≠ (.slice (some ad302) t296.length co32 : Value).ownBlock ∧ some k_ ≠ (.slice (some ad303) t299.length co33 : Value).ownBlock) (fun _ => False) rfl rfl ?aP (fun _ hk => hk.elim) ?aF ?aO ?aB ?aS ?aL ?_; (case aP => exact rfl); (case aB => exact (bq0_ HB.out)); (case aF => exact (fun k_ hk => ⟨Kd.fresh' (Kd.R_lt (mvR_ HO_8.out)) k_ hk, Kd.fresh' (Kd.R_lt (mvR_ HO_9.out)) k_ hk⟩)); (case aO => exact (mvR_ HO_10.out)); (case aS => exact (below_size (bq0_ HB.out))); (case aL => have := LMc31.out; omega); intro v316 w34 ho hb hg hat; rw [← Ny315.out] at ho; have n0_ := Aside0.mk (Kd.R_after (ok := (fun k_ => some k_ ≠ (.slice (some ad303) t299.length co33 : Value).ownBlock)) (mvR_ HO_8.out) hg hat); have n1_ := Aside0.mk (Kd.R_after (ok := (fun k_ => some k_ ≠ (.slice (some ad302) t296.length co32 : Value).ownBlock)) (mvR_ HO_9.out) hg hat); have n2_ := Aside0.mk (hb); have n3_ := Aside0.mk (ho); clear HO_8; clear HO_9; clear HB; clear HO_10; have HO_8 := n0_; have HO_9 := n1_; have HB := n2_; have HO317 := n3_; clear n0_ n1_ n2_ n3_; clear ho hb hg hat)))
             go_roundg k2
             case measure => have := HJ4.out; have := HK2.out; omega
             case rel => exact ⟨(y315), (wrap64 (x11_2 + 1)), (by first | rfl | (simp; done) | (simp [*]; done)), H', ⟨by have := HJ4.out; have := HK2.out; omega⟩, ⟨by (with_reducible repeat (first | apply Kd.R_alloc | apply Kd.R_drewN | apply Kd.R_drew)); exact HO_8.out⟩, ⟨by (with_reducible repeat (first | apply Kd.R_alloc | apply Kd.R_drewN | apply Kd.R_drew)); exact HO_9.out⟩, ⟨by (with_reducible repeat (first | apply Kd.R_alloc | apply Kd.R_drewN | apply Kd.R_drew)); exact HO317.out⟩, ⟨by repeat (first | (with_reducible first | exact HB.out | apply below_alloc | apply pw_below_drewN | apply below_drew1) | exact HB.out)⟩⟩
            ·rw [if_neg c31] at H
             exact absurd H (by simp)
           ·rw [if_neg c30] at H
            have c30b0 : ((rd t299 x11_2) == 1) = false := beq_eq_false_iff_ne.mpr c30
            have c30b1 : ((rd t299 x11_2) != 1) = true := bne_iff_ne.mpr c30
            by_cases c35 : (rd t299 x11_2) = (ji15)
            ·rw [if_pos c35] at H
             have c35b0 : ((rd t299 x11_2) == (ji15)) = true := beq_iff_eq.mpr c35
             have c35b1 : ((rd t299 x11_2) != (ji15)) = false := bne_eq_false_iff_eq.mpr c35
             clear c35
             by_cases c36 : x10_2.length < 17592186044416
             ·rw [if_pos c36] at H
              have LMc36 := Aside0.mk c36
              clear c36
              obtain ⟨y319, hy319⟩ : ∃ y_ : List Int, y_ = (x10_2 ++ [ji15]) := ⟨_, rfl⟩
              replace H : (fullerref02_Join.l0 k2 t296 t299 y319 (wrap64 (x11_2 + 1))) = some (r1, r2) := by first | (rw [hy319]; with_reducible exact H) | (have H2_ := (Option.bind_some _ _).symm.trans H; rw [hy319]; with_reducible exact H2_) | (have H2_ := (Option.bind_some _ _).symm.trans H; with_reducible exact H2_) | with_reducible exact H | (rw [hy319]; exact H) | exact H
              have Ny319 := Aside0.mk hy319
              clear hy319
              have H' := Aside0.mk H
              clear H
              obtain ⟨Ao37, co37, eo37⟩ := Kd.R_slice HO_8.out
              subst eo37
              have p302 : 0 ≤ (x11_2 : Int) := od_
              have q302 : x11_2 < (t296.length : Int) := od_
              obtain ⟨ad302, e302, hx302_0⟩ := Kd.at_int (Kd.R_reads' HO_8.out).2.2 x11_2 p302 q302
              cases e302
              replace p302 := eq_true p302
              replace q302 := eq_true q302
              obtain ⟨Ao38, co38, eo38⟩ := Kd.R_slice HO_9.out
              subst eo38
              have p303 : 0 ≤ (x11_2 : Int) := od_
              have q303 : x11_2 < (t299.length : Int) := od_
              obtain ⟨ad303, e303, hx303_0⟩ := Kd.at_int (Kd.R_reads' HO_9.out).2.2 x11_2 p303 q303
              cases e303
              replace p303 := eq_true p303
              replace q303 := eq_true q303
              have p304 : 0 ≤ (x11_2 : Int) := od_
              have q304 : x11_2 < (t296.length : Int) := od_
              obtain ⟨ad304, e304, hx304_0⟩ := Kd.at_int (Kd.R_reads' HO_8.out).2.2 x11_2 p304 q304
              obtain rfl : ad302 = ad304 := (by injection e304)
              replace p304 := eq_true p304
              replace q304 := eq_true q304
              have p313 : 0 ≤ (x11_2 : Int) := od_
              have q313 : x11_2 < (t296.length : Int) := od_
              obtain ⟨ad313, e313, hx313_0⟩ := Kd.at_int (Kd.R_reads' HO_8.out).2.2 x11_2 p313 q313
              obtain rfl : ad302 = ad313 := (by injection e313)
              replace p313 := eq_true p313
              replace q313 := eq_true q313
              have p314 : 0 ≤ (x11_2 : Int) := od_
              have q314 : x11_2 < (t299.length : Int) := od_
              obtain ⟨ad314, e314, hx314_0⟩ := Kd.at_int (Kd.R_reads' HO_9.out).2.2 x11_2 p314 q314
              obtain rfl : ad303 = ad314 := (by injection e314)
              replace p314 := eq_true p314
              replace q314 := eq_true q314
              have p318 : 0 ≤ (x11_2 : Int) := od_
              have q318 : x11_2 < (t299.length : Int) := od_
              obtain ⟨ad318, e318, hx318_0⟩ := Kd.at_int (Kd.R_reads' HO_9.out).2.2 x11_2 p318 q318
              obtain rfl : ad303 = ad318 := (by injection e318)
              replace p318 := eq_true p318
              replace q318 := eq_true q318
              go_wp2_with (first | ((with_reducible refine gate_builtin (b := .append) (xs := #[.tmp 75, .tmp 77]) rfl ?_); at_builtin; refine Kd.R_append (Kd.int .i64) (w0 := w) w.heap.size rfl (.tmp 75) (.tmp 77) 22 3 (.int .i64 0) 8 rfl Try.underlying22 info3 rfl (by decide) (by omega) u10 x10_2 ji15 [.int .i64 ji15] (fun k_ => some k_ ≠ (.slice (some ad302) t296.length co37 : Value).ownBlock ∧ some k_ ≠ (.slice (some ad303) t299.length co38 : Value).ownBlock) (fun _ => False) rfl rfl ?aP (fun _ hk => hk.elim) ?aF ?aO ?aB ?aS ?aL ?_; (case aP => exact rfl); (case aB => exact (bq0_ HB.out)); (case aF => exact (fun k_ hk => ⟨Kd.fresh' (Kd.R_lt (mvR_ HO_8.out)) k_ hk, Kd.fresh' (Kd.R_lt (mvR_ HO_9.out)) k_ hk⟩)); (case aO => exact (mvR_ HO_10.out)); (case aS => exact (below_size (bq0_ HB.out))); (case aL => have := LMc36.out; omega); intro v320 w39 ho hb hg hat; rw [← Ny319.out] at ho; have n0_ := Aside0.mk (Kd.R_after (ok := (fun k_ => some k_ ≠ (.slice (some ad303) t299.length co38 : Value).ownBlock)) (mvR_ HO_8.out) hg hat); have n1_ := Aside0.mk (Kd.R_after (ok := (fun k_ => some k_ ≠ (.slice (some ad302) t296.length co37 : Value).ownBlock)) (mvR_ HO_9.out) hg hat); have n2_ := Aside0.mk (hb); have n3_ := Aside0.mk (ho); clear HO_8; clear HO_9; clear HB; clear HO_10; have HO_8 := n0_; have HO_9 := n1_; have HB := n2_; have HO321 := n3_; clear n0_ n1_ n2_ n3_; clear ho hb hg hat))
              repeat (go_quiet (first | ((with_reducible refine gate_builtin (b := .append) (xs := #[.tmp 75, .tmp 77]) rfl ?_); at_builtin; refine Kd.R_append (Kd.int .i64) (w0 := w) w.heap.size rfl (.tmp 75) (.tmp 77) 22 3 (.int .i64 0) 8 rfl Try.underlying22 info3 rfl (by decide) (by omega) u10 x10_2 ji15 [.int .i64 ji15] (fun k_ => some k_ ≠ (.slice (some ad302) t296.length co37 : Value).ownBlock ∧ some k_ ≠ (.slice (some ad303) t299.length co38 : Value).ownBlock) (fun _ => False) rfl rfl ?aP (fun _ hk => hk.elim) ?aF ?aO ?aB ?aS ?aL ?_; (case aP => exact rfl); (case aB => exact (bq0_ HB.out)); (case aF => exact (fun k_ hk => ⟨Kd.fresh' (Kd.R_lt (mvR_ HO_8.out)) k_ hk, Kd.fresh' (Kd.R_lt (mvR_ HO_9.out)) k_ hk⟩)); (case aO => exact (mvR_ HO_10.out)); (case aS => exact (below_size (bq0_ HB.out))); (case aL => have := LMc36.out; omega); intro v320 w39 ho hb hg hat; rw [← Ny319.out] at ho; have n0_ := Aside0.mk (Kd.R_after (ok := (fun k_ => some k_ ≠ (.slice (some ad303) t299.length co38 : Value).ownBlock)) (mvR_ HO_8.out) hg hat); have n1_ := Aside0.mk (Kd.R_after (ok := (fun k_ => some k_ ≠ (.slice (some ad302) t296.length co37 : Value).ownBlock)) (mvR_ HO_9.out) hg hat); have n2_ := Aside0.mk (hb); have n3_ := Aside0.mk (ho); clear HO_8; clear HO_9; clear HB; clear HO_10; have HO_8 := n0_; have HO_9 := n1_; have HB := n2_; have HO321 := n3_; clear n0_ n1_ n2_ n3_; clear ho hb hg hat)); try go_wp2_with (first | ((with_reducible refine gate_builtin (b := .append) (xs := #[.tmp 75, .tmp 77]) rfl ?_); at_builtin; refine Kd.R_append (Kd.int .i64) (w0 := w) w.heap.size rfl (.tmp 75) (.tmp 77) 22 3 (.int .i64 0) 8 rfl Try.underlying22 info3 rfl (by decide) (by omega) u10 x10_2 ji15 [.int .i64 ji15] (fun k_ => some k_ ≠ (.slice (some ad302) t296.length co37 : Value).ownBlock ∧ some k_ ≠ (.slice (some ad303) t299.length co38 : Value).ownBlock) (fun _ => False) rfl rfl ?aP (fun _ hk => hk.elim) ?aF ?aO ?aB ?aS ?aL ?_; (case aP => exact rfl); (case aB => exact (bq0_ HB.out)); (case aF => exact (fun k_ hk => ⟨Kd.fresh' (Kd.R_lt (mvR_ HO_8.out)) k_ hk, Kd.fresh' (Kd.R_lt (mvR_ HO_9.out)) k_ hk⟩)); (case aO => exact (mvR_ HO_10.out)); (case aS => exact (below_size (bq0_ HB.out))); (case aL => have := LMc36.out; omega); intro v320 w39 ho hb hg hat; rw [← Ny319.out] at ho; have n0_ := Aside0.mk (Kd.R_after (ok := (fun k_ => some k_ ≠ (.slice (some ad303) t299.length co38 : Value).ownBlock)) (mvR_ HO_8.out) hg hat); have n1_ := Aside0.mk (Kd.R_after (ok := (fun k_ => some k_ ≠ (.slice (some ad302) t296.length co37 : Value).ownBlock)) (mvR_ HO_9.out) hg hat); have n2_ := Aside0.mk (hb); have n3_ := Aside0.mk (ho); clear HO_8; clear HO_9; clear HB; clear HO_10; have HO_8 := n0_; have HO_9 := n1_; have HB := n2_; have HO321 := n3_; clear n0_ n1_ n2_ n3_; clear ho hb hg hat)))
              go_roundg k2
              case measure => have := HJ4.out; have := HK2.out; omega
              case rel => exact ⟨(y319), (wrap64 (x11_2 + 1)), (by first | rfl | (simp; done) | (simp [*]; done)), H', ⟨by have := HJ4.out; have := HK2.out; omega⟩, ⟨by (with_reducible repeat (first | apply Kd.R_alloc | apply Kd.R_drewN | apply Kd.R_drew)); exact HO_8.out⟩, ⟨by (with_reducible repeat (first | apply Kd.R_alloc | apply Kd.R_drewN | apply Kd.R_drew)); exact HO_9.out⟩, ⟨by (with_reducible repeat (first | apply Kd.R_alloc | apply Kd.R_drewN | apply Kd.R_drew)); exact HO321.out⟩, ⟨by repeat (first | (with_reducible first | exact HB.out | apply below_alloc | apply pw_below_drewN | apply below_drew1) | exact HB.out)⟩⟩
             ·rw [if_neg c36] at H
              exact absurd H (by simp)
            ·rw [if_neg c35] at H
             have c35b0 : ((rd t299 x11_2) == (ji15)) = false := beq_eq_false_iff_ne.mpr c35
             have c35b1 : ((rd t299 x11_2) != (ji15)) = true := bne_iff_ne.mpr c35
             simp only [Option.some.injEq, Prod.mk.injEq] at H
             obtain ⟨rfl, rfl⟩ := H
             obtain ⟨Ao40, co40, eo40⟩ := Kd.R_slice HO_8.out
             subst eo40
             have p302 : 0 ≤ (x11_2 : Int) := od_
             have q302 : x11_2 < (t296.length : Int) := od_
             obtain ⟨ad302, e302, hx302_0⟩ := Kd.at_int (Kd.R_reads' HO_8.out).2.2 x11_2 p302 q302
             cases e302
             replace p302 := eq_true p302
             replace q302 := eq_true q302
             obtain ⟨Ao41, co41, eo41⟩ := Kd.R_slice HO_9.out
             subst eo41
             have p303 : 0 ≤ (x11_2 : Int) := od_
             have q303 : x11_2 < (t299.length : Int) := od_
             obtain ⟨ad303, e303, hx303_0⟩ := Kd.at_int (Kd.R_reads' HO_9.out).2.2 x11_2 p303 q303
             cases e303
             replace p303 := eq_true p303
             replace q303 := eq_true q303
             have p304 : 0 ≤ (x11_2 : Int) := od_
             have q304 : x11_2 < (t296.length : Int) := od_
             obtain ⟨ad304, e304, hx304_0⟩ := Kd.at_int (Kd.R_reads' HO_8.out).2.2 x11_2 p304 q304
             obtain rfl : ad302 = ad304 := (by injection e304)
             replace p304 := eq_true p304
             replace q304 := eq_true q304
             have p313 : 0 ≤ (x11_2 : Int) := od_
             have q313 : x11_2 < (t296.length : Int) := od_
             obtain ⟨ad313, e313, hx313_0⟩ := Kd.at_int (Kd.R_reads' HO_8.out).2.2 x11_2 p313 q313
             obtain rfl : ad302 = ad313 := (by injection e313)
             replace p313 := eq_true p313
             replace q313 := eq_true q313
             have p314 : 0 ≤ (x11_2 : Int) := od_
             have q314 : x11_2 < (t299.length : Int) := od_
             obtain ⟨ad314, e314, hx314_0⟩ := Kd.at_int (Kd.R_reads' HO_9.out).2.2 x11_2 p314 q314
             obtain rfl : ad303 = ad314 := (by injection e314)
             replace p314 := eq_true p314
             replace q314 := eq_true q314
             have p318 : 0 ≤ (x11_2 : Int) := od_
             have q318 : x11_2 < (t299.length : Int) := od_
             obtain ⟨ad318, e318, hx318_0⟩ := Kd.at_int (Kd.R_reads' HO_9.out).2.2 x11_2 p318 q318
             obtain rfl : ad303 = ad318 := (by injection e318)
             replace p318 := eq_true p318
             replace q318 := eq_true q318
             go_wp2
             repeat (go_quiet (fail); try go_wp2)
             go_ret2
             exact ⟨_, by first | rfl | (simp [errW_none, errW_some] <;> rfl) | (simp only [← hji15]; first | rfl | (simp [errW_none, errW_some] <;> rfl)) | (simp [*, errW_none, errW_some] <;> rfl), by first | exact Kd.R_nil _ _ _ _ _ | exact Kd.N_nil _ _ _ _ _ | exact Kd.V_nil _ _ _ _ _ | exact Kd.Q_nil _ _ _ _ _ | exact Kd.S_nil _ _ _ _ _, by repeat (first | (with_reducible first | exact HB.out | apply below_alloc | apply pw_below_drewN | apply below_drew1) | exact HB.out)⟩
          ·rw [if_neg c29] at H
           have c29b0 : ((rd t296 x11_2) == (ji15)) = false := beq_eq_false_iff_ne.mpr c29
           have c29b1 : ((rd t296 x11_2) != (ji15)) = true := bne_iff_ne.mpr c29
           simp only [Option.some.injEq, Prod.mk.injEq] at H
           obtain ⟨rfl, rfl⟩ := H
           obtain ⟨Ao42, co42, eo42⟩ := Kd.R_slice HO_8.out
           subst eo42
           have p302 : 0 ≤ (x11_2 : Int) := od_
           have q302 : x11_2 < (t296.length : Int) := od_
           obtain ⟨ad302, e302, hx302_0⟩ := Kd.at_int (Kd.R_reads' HO_8.out).2.2 x11_2 p302 q302
           cases e302
           replace p302 := eq_true p302
           replace q302 := eq_true q302
           obtain ⟨Ao43, co43, eo43⟩ := Kd.R_slice HO_9.out
           subst eo43
           have p303 : 0 ≤ (x11_2 : Int) := od_
           have q303 : x11_2 < (t299.length : Int) := od_
           obtain ⟨ad303, e303, hx303_0⟩ := Kd.at_int (Kd.R_reads' HO_9.out).2.2 x11_2 p303 q303
           cases e303
           replace p303 := eq_true p303
           replace q303 := eq_true q303
           have p304 : 0 ≤ (x11_2 : Int) := od_
           have q304 : x11_2 < (t296.length : Int) := od_
           obtain ⟨ad304, e304, hx304_0⟩ := Kd.at_int (Kd.R_reads' HO_8.out).2.2 x11_2 p304 q304
           obtain rfl : ad302 = ad304 := (by injection e304)
           replace p304 := eq_true p304
           replace q304 := eq_true q304
           have p313 : 0 ≤ (x11_2 : Int) := od_
           have q313 : x11_2 < (t296.length : Int) := od_
           obtain ⟨ad313, e313, hx313_0⟩ := Kd.at_int (Kd.R_reads' HO_8.out).2.2 x11_2 p313 q313
           obtain rfl : ad302 = ad313 := (by injection e313)
           replace p313 := eq_true p313
           replace q313 := eq_true q313
           go_wp2
           repeat (go_quiet (fail); try go_wp2)
           go_ret2
           exact ⟨_, by first | rfl | (simp [errW_none, errW_some] <;> rfl) | (simp only [← hji15]; first | rfl | (simp [errW_none, errW_some] <;> rfl)) | (simp [*, errW_none, errW_some] <;> rfl), by first | exact Kd.R_nil _ _ _ _ _ | exact Kd.N_nil _ _ _ _ _ | exact Kd.V_nil _ _ _ _ _ | exact Kd.Q_nil _ _ _ _ _ | exact Kd.S_nil _ _ _ _ _, by repeat (first | (with_reducible first | exact HB.out | apply below_alloc | apply pw_below_drewN | apply below_drew1) | exact HB.out)⟩
        ·rw [if_neg c14] at H
         exact absurd H (by simp)
       ·rw [if_neg c13] at H
        exact absurd H (by simp)
      ·rw [if_neg c12] at H
       have c12b0 : decide (x11_2 < (t296.length : Int)) = false := decide_eq_false c12
       clear c12
       replace H := Option.bind_eq_some_iff.mp H
       obtain ⟨t322, A440, H⟩ := H
       replace H : (if t322 = true then (some (x10_2, 0)) else (some (([] : List Int), 20))) = some (r1, r2) := H
       have A44 := Aside0.mk A440
       clear A440
       by_cases c45 : t322 = true
       ·subst c45
        have H1 : (some (x10_2, 0)) = some (r1, r2) := by rw [if_pos rfl] at H; exact H
        clear H
        have H := H1
        clear H1
        simp only [Option.some.injEq, Prod.mk.injEq] at H
        obtain ⟨rfl, rfl⟩ := H
        obtain ⟨Ao46, co46, eo46⟩ := Kd.R_slice HO_8.out
        subst eo46
        obtain ⟨Ao47, co47, eo47⟩ := Kd.R_slice HO_10.out
        subst eo47
        go_wp2_with (first | (go_at_call 31; (with_reducible refine (fullerref02_Check.calls k2 _ _ x10_2 true _ ?side1 ?side2 A44.out).mono ?_); (case side1 => exact mvC_ ((Kd.R_reads' HO_10.out).2.2)); (case side2 => exact (Kd.R_reads' HO_10.out).2.1); rintro e w' ⟨rfl, ⟨nd, rfl⟩⟩; (try first | exact ⟨rfl, _, World.drewN_drewN _ _ _⟩ | exact ⟨rfl, _, Eq.trans (World.drewN_drewN _ _ _) (congrArg (World.drewN _) (Nat.add_assoc _ _ _))⟩)))
        repeat (go_quiet (first | (go_at_call 31; (with_reducible refine (fullerref02_Check.calls k2 _ _ x10_2 true _ ?side1 ?side2 A44.out).mono ?_); (case side1 => exact mvC_ ((Kd.R_reads' HO_10.out).2.2)); (case side2 => exact (Kd.R_reads' HO_10.out).2.1); rintro e w' ⟨rfl, ⟨nd, rfl⟩⟩; (try first | exact ⟨rfl, _, World.drewN_drewN _ _ _⟩ | exact ⟨rfl, _, Eq.trans (World.drewN_drewN _ _ _) (congrArg (World.drewN _) (Nat.add_assoc _ _ _))⟩))); try go_wp2_with (first | (go_at_call 31; (with_reducible refine (fullerref02_Check.calls k2 _ _ x10_2 true _ ?side1 ?side2 A44.out).mono ?_); (case side1 => exact mvC_ ((Kd.R_reads' HO_10.out).2.2)); (case side2 => exact (Kd.R_reads' HO_10.out).2.1); rintro e w' ⟨rfl, ⟨nd, rfl⟩⟩; (try first | exact ⟨rfl, _, World.drewN_drewN _ _ _⟩ | exact ⟨rfl, _, Eq.trans (World.drewN_drewN _ _ _) (congrArg (World.drewN _) (Nat.add_assoc _ _ _))⟩))))
        go_ret2
        exact ⟨_, by first | rfl | (simp [errW_none, errW_some] <;> rfl) | (simp [*, errW_none, errW_some] <;> rfl), by (with_reducible repeat (first | apply Kd.R_alloc | apply Kd.R_drewN | apply Kd.R_drew)); exact Kd.R_mono HO_10.out (fun _ hk => trivial), by repeat (first | (with_reducible first | exact HB.out | apply below_alloc | apply pw_below_drewN | apply below_drew1) | exact HB.out)⟩
       ·replace c45 := Bool.eq_false_iff.mpr c45
        subst c45
        have H1 : (some (([] : List Int), 20)) = some (r1, r2) := by rw [if_neg (show ¬ (false = true) by decide)] at H; exact H
        clear H
        have H := H1
        clear H1
        simp only [Option.some.injEq, Prod.mk.injEq] at H
        obtain ⟨rfl, rfl⟩ := H
        obtain ⟨Ao48, co48, eo48⟩ := Kd.R_slice HO_8.out
        subst eo48
        obtain ⟨Ao49, co49, eo49⟩ := Kd.R_slice HO_10.out
        subst eo49
        go_wp2_with (first | (go_at_call 31; (with_reducible refine (fullerref02_Check.calls k2 _ _ x10_2 false _ ?side1 ?side2 A44.out).mono ?_); (case side1 => exact mvC_ ((Kd.R_reads' HO_10.out).2.2)); (case side2 => exact (Kd.R_reads' HO_10.out).2.1); rintro e w' ⟨rfl, ⟨nd, rfl⟩⟩; (try first | exact ⟨rfl, _, World.drewN_drewN _ _ _⟩ | exact ⟨rfl, _, Eq.trans (World.drewN_drewN _ _ _) (congrArg (World.drewN _) (Nat.add_assoc _ _ _))⟩)))
        repeat (go_quiet (first | (go_at_call 31; (with_reducible refine (fullerref02_Check.calls k2 _ _ x10_2 false _ ?side1 ?side2 A44.out).mono ?_); (case side1 => exact mvC_ ((Kd.R_reads' HO_10.out).2.2)); (case side2 => exact (Kd.R_reads' HO_10.out).2.1); rintro e w' ⟨rfl, ⟨nd, rfl⟩⟩; (try first | exact ⟨rfl, _, World.drewN_drewN _ _ _⟩ | exact ⟨rfl, _, Eq.trans (World.drewN_drewN _ _ _) (congrArg (World.drewN _) (Nat.add_assoc _ _ _))⟩))); try go_wp2_with (first | (go_at_call 31; (with_reducible refine (fullerref02_Check.calls k2 _ _ x10_2 false _ ?side1 ?side2 A44.out).mono ?_); (case side1 => exact mvC_ ((Kd.R_reads' HO_10.out).2.2)); (case side2 => exact (Kd.R_reads' HO_10.out).2.1); rintro e w' ⟨rfl, ⟨nd, rfl⟩⟩; (try first | exact ⟨rfl, _, World.drewN_drewN _ _ _⟩ | exact ⟨rfl, _, Eq.trans (World.drewN_drewN _ _ _) (congrArg (World.drewN _) (Nat.add_assoc _ _ _))⟩))))
        go_ret2
        exact ⟨_, by first | rfl | (simp [errW_none, errW_some] <;> rfl) | (simp [*, errW_none, errW_some] <;> rfl), by first | exact Kd.R_nil _ _ _ _ _ | exact Kd.N_nil _ _ _ _ _ | exact Kd.V_nil _ _ _ _ _ | exact Kd.Q_nil _ _ _ _ _ | exact Kd.S_nil _ _ _ _ _, by repeat (first | (with_reducible first | exact HB.out | apply below_alloc | apply pw_below_drewN | apply below_drew1) | exact HB.out)⟩

/-! ### fullerref02_Fits: function 36 -/
def fullerref02_Fits.f (k : Nat) (l0 : List Int) (l1 : List Int) : Option (Bool) := (fullerref02_Join.f k l0 l1).bind fun bt323 => (if bt323.2 = 0 then ((fullerref02_Same.f k bt323.1 l1).bind fun t327 => (some t327)) else (some false))
theorem fullerref02_Fits.mono : ∀ a0 a1 k, LeO (fullerref02_Fits.f k a0 a1) (fullerref02_Fits.f (k + 1) a0 a1) := by
  intro a0 a1 k
  unfold fullerref02_Fits.f
  repeat' first
      | (with_reducible exact fullerref02_Join.mono _ _ _)
      | (with_reducible exact fullerref02_Same.mono _ _ _)
      | (with_reducible exact LeO.refl _)
      | (with_reducible exact LeO.none _)
      | (with_reducible refine LeO.ite ?_ ?_)
      | (with_reducible refine LeO.bind ?_ (fun _ => ?_))
      | exact fullerref02_Join.mono _ _ _
      | exact fullerref02_Same.mono _ _ _
      | exact LeO.none _
      | refine LeO.ite ?_ ?_
      | refine LeO.bind ?_ (fun _ => ?_)
set_option maxHeartbeats 8000000 in
set_option maxRecDepth 100000 in
theorem fullerref02_Fits.calls (k : Nat) (A0 : Option Addr) (c0 : Nat) (l0 : List Int) (A1 : Option Addr) (c1 : Nat) (l1 : List Int) (r : Bool) (w : World) (hr0 : Kd.C (Kd.int .i64) w A0 l0.length l0) (hc0 : l0.length ≤ c0) (hr1 : Kd.C (Kd.int .i64) w A1 l1.length l1) (hc1 : l1.length ≤ c1) (h : fullerref02_Fits.f k l0 l1 = some r) :
    Calls Try.prog 36 #[.slice A0 l0.length c0, .slice A1 l1.length c1] w fun e w' => e = .returned (.bool r) ∧ Below w.heap.size w w' := by
  have HR0 := Aside0.mk hr0
  have HC0 := Aside0.mk hc0
  clear hr0 hc0
  have HR1 := Aside0.mk hr1
  have HC1 := Aside0.mk hc1
  clear hr1 hc1
  have HB := Aside0.mk (Below.refl w.heap.size w)
  have H : ((fullerref02_Join.f k l0 l1).bind fun bt323 => (if bt323.2 = 0 then ((fullerref02_Same.f k bt323.1 l1).bind fun t327 => (some t327)) else (some false))) = some r := h
  clear h
  replace H := Option.bind_eq_some_iff.mp H
  obtain ⟨⟨t323, t324⟩, A30, H⟩ := H
  replace H : (if t324 = 0 then ((fullerref02_Same.f k t323 l1).bind fun t327 => (some t327)) else (some false)) = some r := H
  have A3 := Aside0.mk A30
  clear A30
  by_cases c4 : t324 = 0
  · rw [if_pos c4] at H
    have c4b0 : (t324 == 0) = true := beq_iff_eq.mpr c4
    have c4b1 : (t324 != 0) = false := bne_eq_false_iff_eq.mpr c4
    clear c4
    replace H := Option.bind_eq_some_iff.mp H
    obtain ⟨t327, A50, H⟩ := H
    replace H : (some t327) = some r := H
    have A5 := Aside0.mk A50
    clear A50
    obtain rfl := Option.some.inj H
    go_enter Try.func36, Try.ntmps36
    go_wp2_with (first | ((with_reducible refine gate_callee (f := 46) rfl ?_); refine goesL_ (some 10) rfl rfl Try.func46 (by kernel_rfl) rfl #[.slice A0 l0.length c0, .slice A1 l1.length c1] rfl (by (try simp only [List.map_toArray, List.map_cons, List.map_nil]); first | done | rfl | (simp only [List.length_drop, List.length_take]; rfl)) ?_; (with_reducible refine (fullerref02_Join.calls k _ _ l0 _ _ l1 t323 t324 _ ?side1 ?side2 ?side3 ?side4 A3.out).mono ?_); (case side1 => repeat (first | exact HR0.out | (with_reducible refine Kd.C_alloc ?_ _) | (with_reducible refine Kd.C_drewN ?_ _) | (with_reducible refine Kd.C_drew ?_))); (case side2 => exact HC0.out); (case side3 => repeat (first | exact HR1.out | (with_reducible refine Kd.C_alloc ?_ _) | (with_reducible refine Kd.C_drewN ?_ _) | (with_reducible refine Kd.C_drew ?_))); (case side4 => exact HC1.out); rintro e w6 ⟨v325, rfl, ho0, hb⟩; refine ⟨_, rfl, ?_⟩; have n0_ := Aside0.mk (Kd.R_lower ho0 (below_size (by repeat (first | (with_reducible first | exact HB.out | apply below_alloc | apply pw_below_drewN | apply below_drew1) | exact HB.out)))); have n1_ := Aside0.mk (below_step (by repeat (first | (with_reducible first | exact HB.out | apply below_alloc | apply pw_below_drewN | apply below_drew1) | exact HB.out)) hb); clear HB; have HO326 := n0_; have HB := n1_; clear n0_ n1_; (try clear hb); (try clear hb2); (try clear hk); (try clear hi); (try clear ho0); obtain ⟨Ao7, co7, eo7⟩ := Kd.R_slice HO326.out; subst eo7) | (go_at_call 27; (with_reducible refine (fullerref02_Same.calls k _ _ t323 _ _ l1 t327 _ ?side1 ?side2 ?side3 ?side4 A5.out).mono ?_); (case side1 => repeat (first | exact (Kd.R_reads' HO326.out).2.2 | (with_reducible refine Kd.C_alloc ?_ _) | (with_reducible refine Kd.C_drewN ?_ _) | (with_reducible refine Kd.C_drew ?_))); (case side2 => exact (Kd.R_reads' HO326.out).2.1); (case side3 => repeat (first | exact (Kd.C_below HR1.out HB.out) | (with_reducible refine Kd.C_alloc ?_ _) | (with_reducible refine Kd.C_drewN ?_ _) | (with_reducible refine Kd.C_drew ?_))); (case side4 => exact HC1.out); rintro e w' ⟨rfl, ⟨nd, rfl⟩⟩))
    go_ret
    exact ⟨by first | rfl | (simp [errW_none, errW_some] <;> rfl) | (simp [*, errW_none, errW_some] <;> rfl), by repeat (first | (with_reducible first | exact HB.out | apply below_alloc | apply pw_below_drewN | apply below_drew1) | exact HB.out)⟩
  · rw [if_neg c4] at H
    have c4b0 : (t324 == 0) = false := beq_eq_false_iff_ne.mpr c4
    have c4b1 : (t324 != 0) = true := bne_iff_ne.mpr c4
    obtain rfl := Option.some.inj H
    go_enter Try.func36, Try.ntmps36
    go_wp2_with (first | ((with_reducible refine gate_callee (f := 46) rfl ?_); refine goesL_ (some 10) rfl rfl Try.func46 (by kernel_rfl) rfl #[.slice A0 l0.length c0, .slice A1 l1.length c1] rfl (by (try simp only [List.map_toArray, List.map_cons, List.map_nil]); first | done | rfl | (simp only [List.length_drop, List.length_take]; rfl)) ?_; (with_reducible refine (fullerref02_Join.calls k _ _ l0 _ _ l1 t323 t324 _ ?side1 ?side2 ?side3 ?side4 A3.out).mono ?_); (case side1 => repeat (first | exact HR0.out | (with_reducible refine Kd.C_alloc ?_ _) | (with_reducible refine Kd.C_drewN ?_ _) | (with_reducible refine Kd.C_drew ?_))); (case side2 => exact HC0.out); (case side3 => repeat (first | exact HR1.out | (with_reducible refine Kd.C_alloc ?_ _) | (with_reducible refine Kd.C_drewN ?_ _) | (with_reducible refine Kd.C_drew ?_))); (case side4 => exact HC1.out); rintro e w8 ⟨v325, rfl, ho0, hb⟩; refine ⟨_, rfl, ?_⟩; have n0_ := Aside0.mk (Kd.R_lower ho0 (below_size (by repeat (first | (with_reducible first | exact HB.out | apply below_alloc | apply pw_below_drewN | apply below_drew1) | exact HB.out)))); have n1_ := Aside0.mk (below_step (by repeat (first | (with_reducible first | exact HB.out | apply below_alloc | apply pw_below_drewN | apply below_drew1) | exact HB.out)) hb); clear HB; have HO326 := n0_; have HB := n1_; clear n0_ n1_; (try clear hb); (try clear hb2); (try clear hk); (try clear hi); (try clear ho0)))
    go_ret
    exact ⟨by first | rfl | (simp [errW_none, errW_some] <;> rfl) | (simp [*, errW_none, errW_some] <;> rfl), by repeat (first | (with_reducible first | exact HB.out | apply below_alloc | apply pw_below_drewN | apply below_drew1) | exact HB.out)⟩

end Go.Proofs.Ytoiaegbhnpddlaa.A
