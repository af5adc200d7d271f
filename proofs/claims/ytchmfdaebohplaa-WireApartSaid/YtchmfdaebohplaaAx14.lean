/- Lean functions that answer as the Go functions do, and the proofs that they do; no conditions. Written by this session's own driver: a scratch copy of the kit's print with the session's additions (wip/xprint). -/
import Derived.Test.YtchmfdaebohplaaAx0
import Derived.Test.YtchmfdaebohplaaAx2
import Derived.Test.YtchmfdaebohplaaAx4
import Derived.Test.YtchmfdaebohplaaAx5
import Derived.Test.YtchmfdaebohplaaAx6
namespace Go.Proofs.Ytchmfdaebohplaa.A
open Go.RowKit Go.Proofs.YtchmfdaebohplaaW.PrintWords Go.Proofs.YtchmfdaebohplaaW.PrintLast Go.Proofs.YtchmfdaebohplaaW.PrintMore
attribute [local go_sem] max2_int min2_int max_two min_two max_three min_three max_four min_four   -- for this text's walks alone
set_option linter.unusedVariables false
set_option linter.unusedSimpArgs false

/-! ### fullerlaw12_WireCuts: function 5 -/
mutual
def fullerlaw12_WireCuts.j0 : Nat → List (S36) → Int → Int → Bool → List Int → Int → Bool → Option (Bool)
 | 0, _, _, _, _, _, _, _ => none
 | k + 1, x0, x1, x2, x7, x8, x9, x32 => if x32 = true then (if x7 = true then (some (x9 == 100)) else (some false)) else (fullerlaw12_WireCuts.l0 k x0 x1 x2 x7 x8 1 0)
def fullerlaw12_WireCuts.l0 : Nat → List (S36) → Int → Int → Bool → List Int → Int → Int → Option (Bool)
 | 0, _, _, _, _, _, _, _ => none
 | k + 1, x0, x1, x2, x7, x8, x10, x11 => if x11 < (x0.length : Int) then (if 0 ≤ x11 then (fullerlaw12_WireCuts.l0 k x0 x1 x2 x7 x8 (wrap64 ((wrap64 ((wrap64 (x10 + 3)) + (((rd_T36 x0 x11).f1).length : Int))) + (wrap64 (8 * (((rd_T36 x0 x11).f2).length : Int))))) (wrap64 (x11 + 1))) else (none)) else (if (x8.length : Int) = 0 then (none) else (if 0 ≤ (Int.tmod (wrap64 (x1)) (x8.length : Int)) then (if (Int.tmod (wrap64 (x1)) (x8.length : Int)) ≤ (x8.length : Int) then ((wire_Read.f (x8.take ((Int.tmod (wrap64 (x1)) (x8.length : Int)) : Int).toNat)).bind fun bt364 => ((some (([] : List Int) : List Int)).bind fun y368 => (if y368.length + x8.length < 140737488355328 then ((some (y368 ++ x8 : List Int)).bind fun y371 => (if y371.length < 140737488355328 then ((wire_Read.f (y371 ++ [x2])).bind fun bt377 => (if x7 = true then (if bt364.2 = 120 then (if bt377.2 = 120 then (some ((x8.length : Int) == x10)) else (some false)) else (some false)) else (some false))) else (none))) else (none)))) else (none)) else (none)))
end
def fullerlaw12_WireCuts.f (k : Nat) (l0 : List (S36)) (a1 : Int) (a2 : Int) : Option (Bool) := (fullerlaw12_awake.f k).bind fun t352 => ((fullerref10_Few.f k l0).bind fun t353 => (if t353 = true then ((wire_Write.f k l0).bind fun bt354 => (if bt354.2 = 0 then (fullerlaw12_WireCuts.j0 k l0 a1 a2 t352 bt354.1 bt354.2 ((bt354.1.length : Int) == 0)) else (fullerlaw12_WireCuts.j0 k l0 a1 a2 t352 bt354.1 bt354.2 true))) else (some t352)))
theorem fullerlaw12_WireCuts.mono_l : ∀ k, (∀ y0 y1 y2 y3 y4 y5 y6, LeO (fullerlaw12_WireCuts.j0 k y0 y1 y2 y3 y4 y5 y6) (fullerlaw12_WireCuts.j0 (k + 1) y0 y1 y2 y3 y4 y5 y6)) ∧ (∀ y0 y1 y2 y3 y4 y5 y6, LeO (fullerlaw12_WireCuts.l0 k y0 y1 y2 y3 y4 y5 y6) (fullerlaw12_WireCuts.l0 (k + 1) y0 y1 y2 y3 y4 y5 y6))
 | 0 => ⟨fun _ _ _ _ _ _ _ r h => by simp [fullerlaw12_WireCuts.j0] at h, fun _ _ _ _ _ _ _ r h => by simp [fullerlaw12_WireCuts.l0] at h⟩
 | k + 1 => by
  obtain ⟨ih0, ih1⟩ := fullerlaw12_WireCuts.mono_l k
  refine ⟨?_, ?_⟩
  ·intro y0 y1 y2 y3 y4 y5 y6
   unfold fullerlaw12_WireCuts.j0
   repeat' first
   | (with_reducible exact ih0 _ _ _ _ _ _ _)
   | (with_reducible exact ih1 _ _ _ _ _ _ _)
   | (with_reducible exact fullerlaw12_awake.mono _)
   | (with_reducible exact fullerref10_Few.mono _ _)
   | (with_reducible exact wire_Write.mono _ _)
   | (with_reducible exact LeO.refl _)
   | (with_reducible exact LeO.none _)
   | (with_reducible refine LeO.ite ?_ ?_)
   | (with_reducible refine LeO.bind ?_ (fun _ => ?_))
   | exact ih0 _ _ _ _ _ _ _
   | exact ih1 _ _ _ _ _ _ _
   | exact fullerlaw12_awake.mono _
   | exact fullerref10_Few.mono _ _
   | exact wire_Write.mono _ _
   | exact LeO.none _
   | refine LeO.ite ?_ ?_
   | refine LeO.bind ?_ (fun _ => ?_)
  ·intro y0 y1 y2 y3 y4 y5 y6
   unfold fullerlaw12_WireCuts.l0
   repeat' first
   | (with_reducible exact ih0 _ _ _ _ _ _ _)
   | (with_reducible exact ih1 _ _ _ _ _ _ _)
   | (with_reducible exact fullerlaw12_awake.mono _)
   | (with_reducible exact fullerref10_Few.mono _ _)
   | (with_reducible exact wire_Write.mono _ _)
   | (with_reducible exact LeO.refl _)
   | (with_reducible exact LeO.none _)
   | (with_reducible refine LeO.ite ?_ ?_)
   | (with_reducible refine LeO.bind ?_ (fun _ => ?_))
   | exact ih0 _ _ _ _ _ _ _
   | exact ih1 _ _ _ _ _ _ _
   | exact fullerlaw12_awake.mono _
   | exact fullerref10_Few.mono _ _
   | exact wire_Write.mono _ _
   | exact LeO.none _
   | refine LeO.ite ?_ ?_
   | refine LeO.bind ?_ (fun _ => ?_)
theorem fullerlaw12_WireCuts.mono : ∀ a0 a1 a2 k, LeO (fullerlaw12_WireCuts.f k a0 a1 a2) (fullerlaw12_WireCuts.f (k + 1) a0 a1 a2) := by
 intro a0 a1 a2 k
 obtain ⟨ih0, ih1⟩ := fullerlaw12_WireCuts.mono_l k
 unfold fullerlaw12_WireCuts.f
 repeat' first
   | (with_reducible exact ih0 _ _ _ _ _ _ _)
   | (with_reducible exact ih1 _ _ _ _ _ _ _)
   | (with_reducible exact fullerlaw12_awake.mono _)
   | (with_reducible exact fullerref10_Few.mono _ _)
   | (with_reducible exact wire_Write.mono _ _)
   | (with_reducible exact LeO.refl _)
   | (with_reducible exact LeO.none _)
   | (with_reducible refine LeO.ite ?_ ?_)
   | (with_reducible refine LeO.bind ?_ (fun _ => ?_))
   | exact ih0 _ _ _ _ _ _ _
   | exact ih1 _ _ _ _ _ _ _
   | exact fullerlaw12_awake.mono _
   | exact fullerref10_Few.mono _ _
   | exact wire_Write.mono _ _
   | exact LeO.none _
   | refine LeO.ite ?_ ?_
   | refine LeO.bind ?_ (fun _ => ?_)
set_option maxHeartbeats 8000000 in
set_option maxRecDepth 100000 in
theorem fullerlaw12_WireCuts.calls (k : Nat) (A0 : Option Addr) (c0 : Nat) (l0 : List (S36)) (a1 : Int) (a2 : Int) (r : Bool) (w : World) (hr0 : Kd.C k36 w A0 l0.length l0) (hc0 : l0.length ≤ c0) (h : fullerlaw12_WireCuts.f k l0 a1 a2 = some r) :
  Calls Try.prog 5 #[.slice A0 l0.length c0, .int .u16 a1, .int .u8 a2] w fun e w' => e = .returned (.bool r) ∧ Below w.heap.size w w' := by
 have HR0 := Aside0.mk hr0
 have HC0 := Aside0.mk hc0
 clear hr0 hc0
 have HB := Aside0.mk (Below.refl w.heap.size w)
 have H : ((fullerlaw12_awake.f k).bind fun t352 => ((fullerref10_Few.f k l0).bind fun t353 => (if t353 = true then ((wire_Write.f k l0).bind fun bt354 => (if bt354.2 = 0 then (fullerlaw12_WireCuts.j0 k l0 a1 a2 t352 bt354.1 bt354.2 ((bt354.1.length : Int) == 0)) else (fullerlaw12_WireCuts.j0 k l0 a1 a2 t352 bt354.1 bt354.2 true))) else (some t352)))) = some r := h
 clear h
 replace H := Option.bind_eq_some_iff.mp H
 obtain ⟨t352, A40, H⟩ := H
 replace H : ((fullerref10_Few.f k l0).bind fun t353 => (if t353 = true then ((wire_Write.f k l0).bind fun bt354 => (if bt354.2 = 0 then (fullerlaw12_WireCuts.j0 k l0 a1 a2 t352 bt354.1 bt354.2 ((bt354.1.length : Int) == 0)) else (fullerlaw12_WireCuts.j0 k l0 a1 a2 t352 bt354.1 bt354.2 true))) else (some t352))) = some r := H
 have A4 := Aside0.mk A40
 clear A40
 replace H := Option.bind_eq_some_iff.mp H
 obtain ⟨t353, A50, H⟩ := H
 replace H : (if t353 = true then ((wire_Write.f k l0).bind fun bt354 => (if bt354.2 = 0 then (fullerlaw12_WireCuts.j0 k l0 a1 a2 t352 bt354.1 bt354.2 ((bt354.1.length : Int) == 0)) else (fullerlaw12_WireCuts.j0 k l0 a1 a2 t352 bt354.1 bt354.2 true))) else (some t352)) = some r := H
 have A5 := Aside0.mk A50
 clear A50
 by_cases c6 : t353 = true
 ·subst c6
  have H1 : ((wire_Write.f k l0).bind fun bt354 => (if bt354.2 = 0 then (fullerlaw12_WireCuts.j0 k l0 a1 a2 t352 bt354.1 bt354.2 ((bt354.1.length : Int) == 0)) else (fullerlaw12_WireCuts.j0 k l0 a1 a2 t352 bt354.1 bt354.2 true))) = some r := by rw [if_pos rfl] at H; exact H
  clear H
  have H := H1
  clear H1
  replace H := Option.bind_eq_some_iff.mp H
  obtain ⟨⟨t354, t355⟩, A70, H⟩ := H
  replace H : (if t355 = 0 then (fullerlaw12_WireCuts.j0 k l0 a1 a2 t352 t354 t355 ((t354.length : Int) == 0)) else (fullerlaw12_WireCuts.j0 k l0 a1 a2 t352 t354 t355 true)) = some r := H
  have A7 := Aside0.mk A70
  clear A70
  have HC8 := Aside0.mk H
  clear H
  go_enter Try.func5, Try.ntmps5
  go_upto_region 5 with (first | (go_at_call 7; (with_reducible refine (fullerlaw12_awake.calls k  t352 _ A4.out).mono ?_); rintro e w9 ⟨rfl, hb⟩; have n0_ := Aside0.mk (below_step (bq0_ HB.out) hb); clear HB; have HB := n0_; clear n0_; (try clear hb)) | (go_at_call 8; (with_reducible refine (fullerref10_Few.calls k _ _ l0 true _ ?side1 ?side2 A5.out).mono ?_); (case side1 => exact mvC_ ((Kd.C_below HR0.out HB.out))); (case side2 => exact HC0.out); rintro e w' ⟨rfl, ⟨nd, rfl⟩⟩; (try first | exact ⟨rfl, _, World.drewN_drewN _ _ _⟩ | exact ⟨rfl, _, Eq.trans (World.drewN_drewN _ _ _) (congrArg (World.drewN _) (Nat.add_assoc _ _ _))⟩)) | (go_at_call 9; (with_reducible refine (wire_Write.calls k _ _ l0 t354 t355 _ ?side1 ?side2 A7.out).mono ?_); (case side1 => repeat (first | exact (Kd.C_below HR0.out (bq0_ HB.out)) | (with_reducible refine Kd.C_alloc ?_ _) | (with_reducible refine Kd.C_drewN ?_ _) | (with_reducible refine Kd.C_drew ?_))); (case side2 => exact HC0.out); rintro e w10 ⟨v356, rfl, ho0, hb⟩; have n0_ := Aside0.mk (Kd.R_lower ho0 (below_size (bq0_ HB.out))); have n1_ := Aside0.mk (below_step (bq0_ HB.out) hb); clear HB; have HO357 := n0_; have HB := n1_; clear n0_ n1_; (try clear hb); (try clear ho0)))
  repeat (go_quiet (first | (go_at_call 7; (with_reducible refine (fullerlaw12_awake.calls k  t352 _ A4.out).mono ?_); rintro e w9 ⟨rfl, hb⟩; have n0_ := Aside0.mk (below_step (bq0_ HB.out) hb); clear HB; have HB := n0_; clear n0_; (try clear hb)) | (go_at_call 8; (with_reducible refine (fullerref10_Few.calls k _ _ l0 true _ ?side1 ?side2 A5.out).mono ?_); (case side1 => exact mvC_ ((Kd.C_below HR0.out HB.out))); (case side2 => exact HC0.out); rintro e w' ⟨rfl, ⟨nd, rfl⟩⟩; (try first | exact ⟨rfl, _, World.drewN_drewN _ _ _⟩ | exact ⟨rfl, _, Eq.trans (World.drewN_drewN _ _ _) (congrArg (World.drewN _) (Nat.add_assoc _ _ _))⟩)) | (go_at_call 9; (with_reducible refine (wire_Write.calls k _ _ l0 t354 t355 _ ?side1 ?side2 A7.out).mono ?_); (case side1 => repeat (first | exact (Kd.C_below HR0.out (bq0_ HB.out)) | (with_reducible refine Kd.C_alloc ?_ _) | (with_reducible refine Kd.C_drewN ?_ _) | (with_reducible refine Kd.C_drew ?_))); (case side2 => exact HC0.out); rintro e w10 ⟨v356, rfl, ho0, hb⟩; have n0_ := Aside0.mk (Kd.R_lower ho0 (below_size (bq0_ HB.out))); have n1_ := Aside0.mk (below_step (bq0_ HB.out) hb); clear HB; have HO357 := n0_; have HB := n1_; clear n0_ n1_; (try clear hb); (try clear ho0))); go_upto_region 5 with (first | (go_at_call 7; (with_reducible refine (fullerlaw12_awake.calls k  t352 _ A4.out).mono ?_); rintro e w9 ⟨rfl, hb⟩; have n0_ := Aside0.mk (below_step (bq0_ HB.out) hb); clear HB; have HB := n0_; clear n0_; (try clear hb)) | (go_at_call 8; (with_reducible refine (fullerref10_Few.calls k _ _ l0 true _ ?side1 ?side2 A5.out).mono ?_); (case side1 => exact mvC_ ((Kd.C_below HR0.out HB.out))); (case side2 => exact HC0.out); rintro e w' ⟨rfl, ⟨nd, rfl⟩⟩; (try first | exact ⟨rfl, _, World.drewN_drewN _ _ _⟩ | exact ⟨rfl, _, Eq.trans (World.drewN_drewN _ _ _) (congrArg (World.drewN _) (Nat.add_assoc _ _ _))⟩)) | (go_at_call 9; (with_reducible refine (wire_Write.calls k _ _ l0 t354 t355 _ ?side1 ?side2 A7.out).mono ?_); (case side1 => repeat (first | exact (Kd.C_below HR0.out (bq0_ HB.out)) | (with_reducible refine Kd.C_alloc ?_ _) | (with_reducible refine Kd.C_drewN ?_ _) | (with_reducible refine Kd.C_drew ?_))); (case side2 => exact HC0.out); rintro e w10 ⟨v356, rfl, ho0, hb⟩; have n0_ := Aside0.mk (Kd.R_lower ho0 (below_size (bq0_ HB.out))); have n1_ := Aside0.mk (below_step (bq0_ HB.out) hb); clear HB; have HO357 := n0_; have HB := n1_; clear n0_ n1_; (try clear hb); (try clear ho0))))
  (try simp only [Act.put, sA_, sB_, sC_])
  go_cut [32] (fun v32 wc => ∃ (kq : Nat) (x32_7 : Bool), v32 = .bool x32_7 ∧ Aside0 (fullerlaw12_WireCuts.j0 kq l0 a1 a2 t352 t354 t355 x32_7 = some r) ∧ Aside0 (kq ≤ k) ∧ Aside0 (Kd.R (Kd.int .u8) 5 wc w.heap.size (fun _ => True) v356 t354) ∧ Aside0 (Below w.heap.size w wc))
  case first =>
   have H := HC8.out
   clear HC8
   by_cases c11 : t355 = 0
   ·rw [if_pos c11] at H
    have c11b0 : (t355 == 0) = true := beq_iff_eq.mpr c11
    have c11b1 : (t355 != 0) = false := bne_eq_false_iff_eq.mpr c11
    clear c11
    (first | rw [c11b0] | (simp only [i64_w, i32_w]; rw [c11b0]) | skip)
    have H' := Aside0.mk H
    clear H
    obtain ⟨Ao12, co12, eo12⟩ := Kd.R_slice HO357.out
    subst eo12
    go_wp2
    repeat (go_quiet (fail); try go_wp2)
    go_meet
    case rel => exact ⟨_, (((t354.length : Int) == 0)), (by first | rfl | (simp; done) | (simp [*]; done)), H', ⟨by first | omega | exact Nat.le_refl _⟩, ⟨by (with_reducible repeat (first | apply Kd.R_alloc | apply Kd.R_drewN | apply Kd.R_drew)); exact HO357.out⟩, ⟨by repeat (first | (with_reducible first | exact HB.out | apply below_alloc | apply pw_below_drewN | apply below_drew1) | exact HB.out)⟩⟩
   ·rw [if_neg c11] at H
    have c11b0 : (t355 == 0) = false := beq_eq_false_iff_ne.mpr c11
    have c11b1 : (t355 != 0) = true := bne_iff_ne.mpr c11
    (first | rw [c11b0] | (simp only [i64_w, i32_w]; rw [c11b0]) | skip)
    have H' := Aside0.mk H
    clear H
    go_wp2
    repeat (go_quiet (fail); try go_wp2)
    go_meet
    case rel => exact ⟨_, (true), (by first | rfl | (simp; done) | (simp [*]; done)), H', ⟨by first | omega | exact Nat.le_refl _⟩, ⟨by (with_reducible repeat (first | apply Kd.R_alloc | apply Kd.R_drewN | apply Kd.R_drew)); exact HO357.out⟩, ⟨by repeat (first | (with_reducible first | exact HB.out | apply below_alloc | apply pw_below_drewN | apply below_drew1) | exact HB.out)⟩⟩
  case rest =>
   clear HC8
   try clear c1
   try clear p2
   try clear c5
   try clear c6
   try clear c11
   try clear c11b0
   try clear c11b1
   obtain ⟨kq, x32_7, rfl, HA, HJ7, HO_8, HB⟩ := hcut
   cases kq with
   | zero => exact absurd HA.out (by simp [fullerlaw12_WireCuts.j0])
   | succ kj7 =>
    have H := HA.out
    clear HA
    simp only [fullerlaw12_WireCuts.j0] at H
    by_cases c13 : x32_7 = true
    ·subst c13
     have H1 : (if t352 = true then (some (t355 == 100)) else (some false)) = some r := by rw [if_pos rfl] at H; exact H
     clear H
     have H := H1
     clear H1
     by_cases c14 : t352 = true
     ·subst c14
      have H1 : (some (t355 == 100)) = some r := by rw [if_pos rfl] at H; exact H
      clear H
      have H := H1
      clear H1
      obtain rfl := Option.some.inj H
      go_wp2
      repeat (go_quiet (fail); try go_wp2)
      go_ret
      exact ⟨by first | rfl | (simp [errW_none, errW_some] <;> rfl) | (simp [*, errW_none, errW_some] <;> rfl), by repeat (first | (with_reducible first | exact HB.out | apply below_alloc | apply pw_below_drewN | apply below_drew1) | exact HB.out)⟩
     ·replace c14 := Bool.eq_false_iff.mpr c14
      subst c14
      have H1 : (some false) = some r := by rw [if_neg (show ¬ (false = true) by decide)] at H; exact H
      clear H
      have H := H1
      clear H1
      obtain rfl := Option.some.inj H
      go_wp2
      repeat (go_quiet (fail); try go_wp2)
      go_ret
      exact ⟨by first | rfl | (simp [errW_none, errW_some] <;> rfl) | (simp [*, errW_none, errW_some] <;> rfl), by repeat (first | (with_reducible first | exact HB.out | apply below_alloc | apply pw_below_drewN | apply below_drew1) | exact HB.out)⟩
    ·replace c13 := Bool.eq_false_iff.mpr c13
     subst c13
     have H1 : (fullerlaw12_WireCuts.l0 kj7 l0 a1 a2 t352 t354 1 0) = some r := by rw [if_neg (show ¬ (false = true) by decide)] at H; exact H
     clear H
     have H := H1
     clear H1
     have H' := Aside0.mk H
     clear H
     go_wp2
     repeat (go_quiet (fail); try go_wp2)
     go_loopg [10, 11] kj7 (fun kq v10 v11 w' => ∃ (x10_2 : Int) (x11_2 : Int), v10 = .int .i64 x10_2 ∧ v11 = .int .i64 x11_2 ∧ Aside0 (fullerlaw12_WireCuts.l0 kq l0 a1 a2 t352 t354 x10_2 x11_2 = some r) ∧ Aside0 (kq ≤ kj7) ∧ Aside0 (Kd.R (Kd.int .u8) 5 w' w.heap.size (fun _ => True) v356 t354) ∧ Aside0 (Below w.heap.size w w'))
     case atStart => exact ⟨(1), (0), (by first | rfl | (simp; done) | (simp [*]; done)), (by first | rfl | (simp; done) | (simp [*]; done)), H', ⟨Nat.le_refl _⟩, ⟨by (with_reducible repeat (first | apply Kd.R_alloc | apply Kd.R_drewN | apply Kd.R_drew)); exact HO_8.out⟩, ⟨by repeat (first | (with_reducible first | exact HB.out | apply below_alloc | apply pw_below_drewN | apply below_drew1) | exact HB.out)⟩⟩
     case round =>
      clear H'
      try clear c1
      try clear p2
      try clear c5
      try clear c6
      try clear c11
      try clear c11b0
      try clear c11b1
      try clear c13
      try clear c14
      try clear p2
      obtain ⟨x10_2, x11_2, rfl, rfl, HA, HK2, HO_8, HB⟩ := hrel
      cases gk with
      | zero => exact absurd HA.out (by simp [fullerlaw12_WireCuts.l0])
      | succ k2 =>
       have H := HA.out
       clear HA
       simp only [fullerlaw12_WireCuts.l0] at H
       by_cases c15 : x11_2 < (l0.length : Int)
       ·rw [if_pos c15] at H
        have c15b0 : decide (x11_2 < (l0.length : Int)) = true := decide_eq_true c15
        clear c15
        by_cases c16 : 0 ≤ x11_2
        ·rw [if_pos c16] at H
         have c16b0 : decide (0 ≤ x11_2) = true := decide_eq_true c16
         clear c16
         have H' := Aside0.mk H
         clear H
         have p358 : 0 ≤ (x11_2 : Int) := od_
         have q358 : x11_2 < (l0.length : Int) := od_
         obtain ⟨ad358, A358_1, c358_1, A358_2, c358_2, e358, hx358_0, hx358_1, hx358_2, hl358_1, hi358_1, hl358_2, hi358_2⟩ := at_T36 HR0.out x11_2 p358 q358
         cases e358
         replace hx358_0 := (HB.out.cell (World.block_lt_of_cell? w _ hx358_0)).trans hx358_0
         replace hx358_1 := (HB.out.cell (World.block_lt_of_cell? w _ hx358_1)).trans hx358_1
         replace hx358_2 := (HB.out.cell (World.block_lt_of_cell? w _ hx358_2)).trans hx358_2
         have HR358_1 := Aside0.mk hi358_1
         have HC358_1 := Aside0.mk hl358_1
         clear hi358_1 hl358_1
         have HR358_2 := Aside0.mk hi358_2
         have HC358_2 := Aside0.mk hl358_2
         clear hi358_2 hl358_2
         replace p358 := eq_true p358
         replace q358 := eq_true q358
         have p359 : 0 ≤ (x11_2 : Int) := od_
         have q359 : x11_2 < (l0.length : Int) := od_
         obtain ⟨ad359, A359_1, c359_1, A359_2, c359_2, e359, hx359_0, hx359_1, hx359_2, hl359_1, hi359_1, hl359_2, hi359_2⟩ := at_T36 HR0.out x11_2 p359 q359
         obtain rfl : ad358 = ad359 := (by injection e359)
         replace hx359_0 := (HB.out.cell (World.block_lt_of_cell? w _ hx359_0)).trans hx359_0
         replace hx359_1 := (HB.out.cell (World.block_lt_of_cell? w _ hx359_1)).trans hx359_1
         replace hx359_2 := (HB.out.cell (World.block_lt_of_cell? w _ hx359_2)).trans hx359_2
         have HR359_1 := Aside0.mk hi359_1
         have HC359_1 := Aside0.mk hl359_1
         clear hi359_1 hl359_1
         have HR359_2 := Aside0.mk hi359_2
         have HC359_2 := Aside0.mk hl359_2
         clear hi359_2 hl359_2
         replace p359 := eq_true p359
         replace q359 := eq_true q359
         have ea_ := Option.some.inj (hx358_1.symm.trans hx359_1)
         injection ea_ with ea_ en_ ec_
         subst ea_
         subst ec_
         clear en_
         have ea_ := Option.some.inj (hx358_2.symm.trans hx359_2)
         injection ea_ with ea_ en_ ec_
         subst ea_
         subst ec_
         clear en_
         go_wp2
         repeat (go_quiet (fail); try go_wp2)
         go_roundg k2
         case measure => have := HJ7.out; have := HK2.out; omega
         case rel => exact ⟨(wrap64 ((wrap64 ((wrap64 (x10_2 + 3)) + (((rd_T36 l0 x11_2).f1).length : Int))) + (wrap64 (8 * (((rd_T36 l0 x11_2).f2).length : Int))))), (wrap64 (x11_2 + 1)), (by first | rfl | (simp; done) | (simp [*]; done)), (by first | rfl | (simp; done) | (simp [*]; done)), H', ⟨by have := HJ7.out; have := HK2.out; omega⟩, ⟨by (with_reducible repeat (first | apply Kd.R_alloc | apply Kd.R_drewN | apply Kd.R_drew)); exact HO_8.out⟩, ⟨by repeat (first | (with_reducible first | exact HB.out | apply below_alloc | apply pw_below_drewN | apply below_drew1) | exact HB.out)⟩⟩
        ·rw [if_neg c16] at H
         exact absurd H (by simp)
       ·rw [if_neg c15] at H
        have c15b0 : decide (x11_2 < (l0.length : Int)) = false := decide_eq_false c15
        clear c15
        by_cases c17 : (t354.length : Int) = 0
        ·rw [if_pos c17] at H
         exact absurd H (by simp)
        ·rw [if_neg c17] at H
         have c17b0 : ((t354.length : Int) == 0) = false := beq_eq_false_iff_ne.mpr c17
         have c17b1 : ((t354.length : Int) != 0) = true := bne_iff_ne.mpr c17
         have c17b2 : ¬ (t354 = []) := fun h_ => c17 (by rw [h_]; rfl)
         obtain ⟨ji18, hji18⟩ : ∃ j_ : Int, (Int.tmod (wrap64 (a1)) (t354.length : Int)) = j_ := ⟨_, rfl⟩
         replace H : (if 0 ≤ (ji18) then (if (ji18) ≤ (t354.length : Int) then ((wire_Read.f (t354.take ((ji18) : Int).toNat)).bind fun bt364 => ((some (([] : List Int) : List Int)).bind fun y368 => (if y368.length + t354.length < 140737488355328 then ((some (y368 ++ t354 : List Int)).bind fun y371 => (if y371.length < 140737488355328 then ((wire_Read.f (y371 ++ [a2])).bind fun bt377 => (if t352 = true then (if bt364.2 = 120 then (if bt377.2 = 120 then (some ((t354.length : Int) == x10_2)) else (some false)) else (some false)) else (some false))) else (none))) else (none)))) else (none)) else (none)) = some r := by first | (rw [hji18] at H; exact H) | (simp only [hji18] at H ⊢; exact H)
         by_cases c19 : 0 ≤ (ji18)
         ·rw [if_pos c19] at H
          have c19b0 := eq_true c19
          have c19b1 : decide (0 ≤ (ji18)) = true := decide_eq_true c19
          clear c19
          by_cases c20 : (ji18) ≤ (t354.length : Int)
          ·rw [if_pos c20] at H
           have c20b0 := eq_true c20
           have c20b1 : decide ((ji18) ≤ (t354.length : Int)) = true := decide_eq_true c20
           clear c20
           obtain ⟨y360, hy360⟩ : ∃ y_ : List Int, y_ = (t354.take ((ji18) : Int).toNat) := ⟨_, rfl⟩
           replace H : ((wire_Read.f y360).bind fun bt364 => ((some (([] : List Int) : List Int)).bind fun y368 => (if y368.length + t354.length < 140737488355328 then ((some (y368 ++ t354 : List Int)).bind fun y371 => (if y371.length < 140737488355328 then ((wire_Read.f (y371 ++ [a2])).bind fun bt377 => (if t352 = true then (if bt364.2 = 120 then (if bt377.2 = 120 then (some ((t354.length : Int) == x10_2)) else (some false)) else (some false)) else (some false))) else (none))) else (none)))) = some r := by first | (rw [hy360]; with_reducible exact H) | (have H2_ := (Option.bind_some _ _).symm.trans H; rw [hy360]; with_reducible exact H2_) | (have H2_ := (Option.bind_some _ _).symm.trans H; with_reducible exact H2_) | with_reducible exact H | (rw [hy360]; exact H) | exact H
           have Ny360 := Aside0.mk hy360
           clear hy360
           replace H := Option.bind_eq_some_iff.mp H
           obtain ⟨⟨t364, t365⟩, A210, H⟩ := H
           replace H : ((some (([] : List Int) : List Int)).bind fun y368 => (if y368.length + t354.length < 140737488355328 then ((some (y368 ++ t354 : List Int)).bind fun y371 => (if y371.length < 140737488355328 then ((wire_Read.f (y371 ++ [a2])).bind fun bt377 => (if t352 = true then (if t365 = 120 then (if bt377.2 = 120 then (some ((t354.length : Int) == x10_2)) else (some false)) else (some false)) else (some false))) else (none))) else (none))) = some r := H
           have A21 := Aside0.mk A210
           clear A210
           obtain ⟨y368, hy368⟩ : ∃ y_ : List Int, y_ = (([] : List Int)) := ⟨_, rfl⟩
           replace H : (if y368.length + t354.length < 140737488355328 then ((some (y368 ++ t354 : List Int)).bind fun y371 => (if y371.length < 140737488355328 then ((wire_Read.f (y371 ++ [a2])).bind fun bt377 => (if t352 = true then (if t365 = 120 then (if bt377.2 = 120 then (some ((t354.length : Int) == x10_2)) else (some false)) else (some false)) else (some false))) else (none))) else (none)) = some r := by first | (rw [hy368]; with_reducible exact H) | (have H2_ := (Option.bind_some _ _).symm.trans H; rw [hy368]; with_reducible exact H2_) | (have H2_ := (Option.bind_some _ _).symm.trans H; with_reducible exact H2_) | with_reducible exact H | (rw [hy368]; exact H) | exact H
           have Ny368 := Aside0.mk hy368
           clear hy368
           by_cases c22 : y368.length + t354.length < 140737488355328
           ·rw [if_pos c22] at H
            have LMc22 := Aside0.mk c22
            clear c22
            obtain ⟨y371, hy371⟩ : ∃ y_ : List Int, y_ = (y368 ++ t354) := ⟨_, rfl⟩
            replace H : (if y371.length < 140737488355328 then ((wire_Read.f (y371 ++ [a2])).bind fun bt377 => (if t352 = true then (if t365 = 120 then (if bt377.2 = 120 then (some ((t354.length : Int) == x10_2)) else (some false)) else (some false)) else (some false))) else (none)) = some r := by first | (rw [hy371]; with_reducible exact H) | (have H2_ := (Option.bind_some _ _).symm.trans H; rw [hy371]; with_reducible exact H2_) | (have H2_ := (Option.bind_some _ _).symm.trans H; with_reducible exact H2_) | with_reducible exact H | (rw [hy371]; exact H) | exact H
            have Ny371 := Aside0.mk hy371
            clear hy371
            by_cases c23 : y371.length < 140737488355328
            ·rw [if_pos c23] at H
             have LMc23 := Aside0.mk c23
             clear c23
             obtain ⟨y374, hy374⟩ : ∃ y_ : List Int, y_ = (y371 ++ [a2]) := ⟨_, rfl⟩
             replace H : ((wire_Read.f y374).bind fun bt377 => (if t352 = true then (if t365 = 120 then (if bt377.2 = 120 then (some ((t354.length : Int) == x10_2)) else (some false)) else (some false)) else (some false))) = some r := by first | (rw [hy374]; with_reducible exact H) | (have H2_ := (Option.bind_some _ _).symm.trans H; rw [hy374]; with_reducible exact H2_) | (have H2_ := (Option.bind_some _ _).symm.trans H; with_reducible exact H2_) | with_reducible exact H | (rw [hy374]; exact H) | exact H
             have Ny374 := Aside0.mk hy374
             clear hy374
             replace H := Option.bind_eq_some_iff.mp H
             obtain ⟨⟨t377, t378⟩, A240, H⟩ := H
             replace H : (if t352 = true then (if t365 = 120 then (if t378 = 120 then (some ((t354.length : Int) == x10_2)) else (some false)) else (some false)) else (some false)) = some r := H
             have A24 := Aside0.mk A240
             clear A240
             by_cases c25 : t352 = true
             ·subst c25
              have H1 : (if t365 = 120 then (if t378 = 120 then (some ((t354.length : Int) == x10_2)) else (some false)) else (some false)) = some r := by rw [if_pos rfl] at H; exact H
              clear H
              have H := H1
              clear H1
              by_cases c26 : t365 = 120
              ·rw [if_pos c26] at H
               have c26b0 : (t365 == 120) = true := beq_iff_eq.mpr c26
               have c26b1 : (t365 != 120) = false := bne_eq_false_iff_eq.mpr c26
               clear c26
               by_cases c27 : t378 = 120
               ·rw [if_pos c27] at H
                have c27b0 : (t378 == 120) = true := beq_iff_eq.mpr c27
                have c27b1 : (t378 != 120) = false := bne_eq_false_iff_eq.mpr c27
                clear c27
                obtain rfl := Option.some.inj H
                obtain ⟨Ao28, co28, eo28⟩ := Kd.R_slice HO_8.out
                subst eo28
                have q29 : ((ji18) : Int) ≤ ((t354.length : Int) : Int) := od_
                obtain ⟨i029, hi029, _, hsz29, _⟩ := info_parts info5
                have hroom29 : t354.length ≤ co28 := (Kd.R_reads' HO_8.out).2.1
                have hC29 : Kd.C (Kd.int .u8) _ Ao28 t354.length t354 := (Kd.R_reads' HO_8.out).2.2
                have hcut29 := cut_to (P := Try.prog) 23 5 .i64 Try.underlying23 hi029 Ao28 t354.length co28 (ji18) od_ q29 hroom29
                have hr29 := Kd.C_take (m := ((ji18) : Int).toNat) hC29 (by omega)
                have hy29 : y360.length = ((ji18) : Int).toNat := (by rw [Ny360.out, List.length_take]; omega)
                rw [← Ny360.out] at hr29
                rw [← hy29] at hcut29
                have HR363 := Aside0.mk hr29
                have HC363 := Aside0.mk (show y360.length ≤ co28 from by omega)
                clear hr29 hC29 hroom29 hi029 hsz29
                have KY29 := Aside0.mk hy29
                clear hy29
                have KL29 := Aside0.mk (show ((ji18) : Int).toNat ≤ t354.length from by omega)
                replace q29 := eq_true q29
                go_wp2_with (first | (go_at_call 11; (with_reducible refine (wire_Read.calls _ _ y360 t364 t365 _ ?side1 ?side2 A21.out).mono ?_); (case side1 => repeat (first | exact (by repeat (first | (with_reducible exact HR363.out) | (with_reducible refine Kd.C_alloc ?_ _) | (with_reducible refine Kd.C_drewN ?_ _) | (with_reducible refine Kd.C_drew ?_) | exact HR363.out)) | (with_reducible refine Kd.C_alloc ?_ _) | (with_reducible refine Kd.C_drewN ?_ _) | (with_reducible refine Kd.C_drew ?_))); (case side2 => exact HC363.out); rintro e w30 ⟨v366, rfl, ho0, hb⟩; have n0_ := Aside0.mk (Kd.R_below (mvR_ HO_8.out) hb); have n1_ := Aside0.mk (Kd.R_lower ho0 (below_size (bq0_ HB.out))); have n2_ := Aside0.mk (Kd.C_below (by repeat (first | (with_reducible exact HR363.out) | (with_reducible refine Kd.C_alloc ?_ _) | (with_reducible refine Kd.C_drewN ?_ _) | (with_reducible refine Kd.C_drew ?_) | exact HR363.out)) hb); have n3_ := Aside0.mk (below_step (bq0_ HB.out) hb); clear HO_8; clear HR363; clear HB; have HO_8 := n0_; have HO367 := n1_; have HR363 := n2_; have HB := n3_; clear n0_ n1_ n2_ n3_; (try clear hb); (try clear ho0)) | ((with_reducible refine gate_dst (N := 73) rfl ?_); (try (refine gate_guard (by rfl) ?_; dsimp only)); refine Kd.R_lit (Kd.int .u8) _ 5 ?hg (N := 73) ?hd (xs := ([] : List Int)) (inner := []) (ok := fun _ => True) (okp := fun _ => True) ?hr ?hp (fun _ hk => hk) trivial (Below.refl _ _) (Nat.le_refl _) (by simp) ?_; (case hd => rfl); (case hg => rfl); (case hr => first | (go_simp; done) | (go_simp; rfl)); (case hp => exact (Reps.none _ _)); intro v369 w31 ho32 hb hg_ hnew_; clear hg_ hnew_; (first | rw [← Ny368.out] at ho32 | (simp only [Int.reduceToNat] at ho32; rw [← Ny368.out] at ho32)); have n0_ := Aside0.mk (Kd.R_elder' (mvR_ HO_8.out) (Kd.R_base ho32) hb); have n1_ := Aside0.mk (Kd.R_below (mvR_ HO367.out) hb); have n2_ := Aside0.mk (Kd.R_lower (Kd.R_new' ho32 (Kd.R_lt (mvR_ HO_8.out))) (below_size (bq0_ HB.out))); have n3_ := Aside0.mk (Kd.C_below (by repeat (first | (with_reducible exact HR363.out) | (with_reducible refine Kd.C_alloc ?_ _) | (with_reducible refine Kd.C_drewN ?_ _) | (with_reducible refine Kd.C_drew ?_) | exact HR363.out)) hb); have n4_ := Aside0.mk (below_step (bq0_ HB.out) hb); clear HO_8; clear HO367; clear HR363; clear HB; have HO_8 := n0_; have HO367 := n1_; have HO370 := n2_; have HR363 := n3_; have HB := n4_; clear n0_ n1_ n2_ n3_ n4_; clear hb ho32) | ((with_reducible refine gate_builtin (b := .append) (xs := #[.tmp 73, .tmp 74]) rfl ?_); (try (refine gate_guard (by rfl) ?_; dsimp only)); at_builtin; refine Kd.R_append_rows (Kd.int .u8) (w0 := w) w.heap.size rfl (.tmp 73) (.tmp 74) 23 5 (.int .u8 0) 1 rfl Try.underlying23 info5 rfl (by decide) (by omega) v369 y368 t354 _ _ _ (fun k_ => some k_ ≠ (.slice Ao28 t354.length co28 : Value).ownBlock) (fun _ => False) rfl rfl ?aO ?aR (fun _ _ h => h) (fun _ h => h.elim) ?aF ?aB ?aS ?aL ?_; (case aR => exact mvC_ ((Kd.R_reads' HO_8.out).2.2)); (case aB => exact (bq0_ HB.out)); (case aF => exact (fun k_ hk => Kd.fresh' (Kd.R_lt (mvR_ HO_8.out)) k_ hk)); (case aO => exact (by (with_reducible repeat (first | apply Kd.R_alloc | apply Kd.R_drewN | apply Kd.R_drew)); exact Kd.R_mono HO370.out (fun _ hk => hk.2))); (case aS => exact (below_size (bq0_ HB.out))); (case aL => have := LMc22.out; omega); intro v372 w33 ho hb hg hat; rw [← Ny371.out] at ho; have n0_ := Aside0.mk (Kd.R_after (ok := (fun _ => True)) (mvR_ HO_8.out) hg hat); have n1_ := Aside0.mk (Kd.R_over' (mvR_ HO367.out) (Kd.R_typed (mvR_ HO370.out)) (by decide) hg); have n2_ := Aside0.mk (hb); have n3_ := Aside0.mk ((show Kd.C (Kd.int .u8) w33 Ao28 y360.length y360 from by rw [Ny360.out]; exact Kd.C_take (m := ((ji18) : Int).toNat) ((Kd.R_reads' (Kd.R_after (ok := (fun _ => True)) (mvR_ HO_8.out) hg hat)).2.2) KL29.out)); have n4_ := Aside0.mk (ho); clear HO_8; clear HO367; clear HB; clear HR363; clear HO370; have HO_8 := n0_; have HO367 := n1_; have HB := n2_; have HR363 := n3_; have HO373 := n4_; clear n0_ n1_ n2_ n3_ n4_; clear ho hb hg hat) | ((with_reducible refine gate_builtin (b := .append) (xs := #[.tmp 75, .tmp 77]) rfl ?_); (try (refine gate_guard (by rfl) ?_; dsimp only)); at_builtin; refine Kd.R_append (Kd.int .u8) (w0 := w) w.heap.size rfl (.tmp 75) (.tmp 77) 23 5 (.int .u8 0) 1 rfl Try.underlying23 info5 rfl (by decide) (by omega) v372 y371 a2 [.int .u8 a2] (fun k_ => some k_ ≠ (.slice Ao28 t354.length co28 : Value).ownBlock) (fun _ => False) rfl rfl ?aP (fun _ hk => hk.elim) ?aF ?aO ?aB ?aS ?aL ?_; (case aP => exact rfl); (case aB => exact (bq0_ HB.out)); (case aF => exact (fun k_ hk => Kd.fresh' (Kd.R_lt (mvR_ HO_8.out)) k_ hk)); (case aO => exact (mvR_ HO373.out)); (case aS => exact (below_size (bq0_ HB.out))); (case aL => have := LMc23.out; omega); intro v375 w34 ho hb hg hat; rw [← Ny374.out] at ho; have n0_ := Aside0.mk (Kd.R_after (ok := (fun _ => True)) (mvR_ HO_8.out) hg hat); have n1_ := Aside0.mk (Kd.R_over' (mvR_ HO367.out) (Kd.R_typed (mvR_ HO373.out)) (by decide) hg); have n2_ := Aside0.mk (hb); have n3_ := Aside0.mk ((show Kd.C (Kd.int .u8) w34 Ao28 y360.length y360 from by rw [Ny360.out]; exact Kd.C_take (m := ((ji18) : Int).toNat) ((Kd.R_reads' (Kd.R_after (ok := (fun _ => True)) (mvR_ HO_8.out) hg hat)).2.2) KL29.out)); have n4_ := Aside0.mk (ho); clear HO_8; clear HO367; clear HB; clear HR363; clear HO373; have HO_8 := n0_; have HO367 := n1_; have HB := n2_; have HR363 := n3_; have HO376 := n4_; clear n0_ n1_ n2_ n3_ n4_; clear ho hb hg hat; obtain ⟨Ao35, co35, eo35⟩ := Kd.R_slice HO376.out; subst eo35) | (go_at_call 11; (with_reducible refine (wire_Read.calls _ _ y374 t377 t378 _ ?side1 ?side2 A24.out).mono ?_); (case side1 => exact mvC_ ((Kd.R_reads' HO376.out).2.2)); (case side2 => exact (Kd.R_reads' HO376.out).2.1); rintro e w36 ⟨v379, rfl, ho0, hb⟩; have n0_ := Aside0.mk (Kd.R_below (mvR_ HO_8.out) hb); have n1_ := Aside0.mk (Kd.R_elder' (mvR_ HO367.out) (Kd.R_base ho0) hb); have n2_ := Aside0.mk (Kd.R_below (mvR_ HO376.out) hb); have n3_ := Aside0.mk (Kd.R_lower (Kd.R_new' ho0 (Kd.R_lt (mvR_ HO367.out))) (below_size (bq0_ HB.out))); have n4_ := Aside0.mk (Kd.C_below (by repeat (first | (with_reducible exact HR363.out) | (with_reducible refine Kd.C_alloc ?_ _) | (with_reducible refine Kd.C_drewN ?_ _) | (with_reducible refine Kd.C_drew ?_) | exact HR363.out)) hb); have n5_ := Aside0.mk (below_step (bq0_ HB.out) hb); clear HO_8; clear HO367; clear HO376; clear HR363; clear HB; have HO_8 := n0_; have HO367 := n1_; have HO376 := n2_; have HO380 := n3_; have HR363 := n4_; have HB := n5_; clear n0_ n1_ n2_ n3_ n4_ n5_; (try clear hb); (try clear ho0)))
                repeat (go_quiet (first | (go_at_call 11; (with_reducible refine (wire_Read.calls _ _ y360 t364 t365 _ ?side1 ?side2 A21.out).mono ?_); (case side1 => repeat (first | exact (by repeat (first | (with_reducible exact HR363.out) | (with_reducible refine Kd.C_alloc ?_ _) | (with_reducible refine Kd.C_drewN ?_ _) | (with_reducible refine Kd.C_drew ?_) | exact HR363.out)) | (with_reducible refine Kd.C_alloc ?_ _) | (with_reducible refine Kd.C_drewN ?_ _) | (with_reducible refine Kd.C_drew ?_))); (case side2 => exact HC363.out); rintro e w30 ⟨v366, rfl, ho0, hb⟩; have n0_ := Aside0.mk (Kd.R_below (mvR_ HO_8.out) hb); have n1_ := Aside0.mk (Kd.R_lower ho0 (below_size (bq0_ HB.out))); have n2_ := Aside0.mk (Kd.C_below (by repeat (first | (with_reducible exact HR363.out) | (with_reducible refine Kd.C_alloc ?_ _) | (with_reducible refine Kd.C_drewN ?_ _) | (with_reducible refine Kd.C_drew ?_) | exact HR363.out)) hb); have n3_ := Aside0.mk (below_step (bq0_ HB.out) hb); clear HO_8; clear HR363; clear HB; have HO_8 := n0_; have HO367 := n1_; have HR363 := n2_; have HB := n3_; clear n0_ n1_ n2_ n3_; (try clear hb); (try clear ho0)) | ((with_reducible refine gate_dst (N := 73) rfl ?_); (try (refine gate_guard (by rfl) ?_; dsimp only)); refine Kd.R_lit (Kd.int .u8) _ 5 ?hg (N := 73) ?hd (xs := ([] : List Int)) (inner := []) (ok := fun _ => True) (okp := fun _ => True) ?hr ?hp (fun _ hk => hk) trivial (Below.refl _ _) (Nat.le_refl _) (by simp) ?_; (case hd => rfl); (case hg => rfl); (case hr => first | (go_simp; done) | (go_simp; rfl)); (case hp => exact (Reps.none _ _)); intro v369 w31 ho32 hb hg_ hnew_; clear hg_ hnew_; (first | rw [← Ny368.out] at ho32 | (simp only [Int.reduceToNat] at ho32; rw [← Ny368.out] at ho32)); have n0_ := Aside0.mk (Kd.R_elder' (mvR_ HO_8.out) (Kd.R_base ho32) hb); have n1_ := Aside0.mk (Kd.R_below (mvR_ HO367.out) hb); have n2_ := Aside0.mk (Kd.R_lower (Kd.R_new' ho32 (Kd.R_lt (mvR_ HO_8.out))) (below_size (bq0_ HB.out))); have n3_ := Aside0.mk (Kd.C_below (by repeat (first | (with_reducible exact HR363.out) | (with_reducible refine Kd.C_alloc ?_ _) | (with_reducible refine Kd.C_drewN ?_ _) | (with_reducible refine Kd.C_drew ?_) | exact HR363.out)) hb); have n4_ := Aside0.mk (below_step (bq0_ HB.out) hb); clear HO_8; clear HO367; clear HR363; clear HB; have HO_8 := n0_; have HO367 := n1_; have HO370 := n2_; have HR363 := n3_; have HB := n4_; clear n0_ n1_ n2_ n3_ n4_; clear hb ho32) | ((with_reducible refine gate_builtin (b := .append) (xs := #[.tmp 73, .tmp 74]) rfl ?_); (try (refine gate_guard (by rfl) ?_; dsimp only)); at_builtin; refine Kd.R_append_rows (Kd.int .u8) (w0 := w) w.heap.size rfl (.tmp 73) (.tmp 74) 23 5 (.int .u8 0) 1 rfl Try.underlying23 info5 rfl (by decide) (by omega) v369 y368 t354 _ _ _ (fun k_ => some k_ ≠ (.slice Ao28 t354.length co28 : Value).ownBlock) (fun _ => False) rfl rfl ?aO ?aR (fun _ _ h => h) (fun _ h => h.elim) ?aF ?aB ?aS ?aL ?_; (case aR => exact mvC_ ((Kd.R_reads' HO_8.out).2.2)); (case aB => exact (bq0_ HB.out)); (case aF => exact (fun k_ hk => Kd.fresh' (Kd.R_lt (mvR_ HO_8.out)) k_ hk)); (case aO => exact (by (with_reducible repeat (first | apply Kd.R_alloc | apply Kd.R_drewN | apply Kd.R_drew)); exact Kd.R_mono HO370.out (fun _ hk => hk.2))); (case aS => exact (below_size (bq0_ HB.out))); (case aL => have := LMc22.out; omega); intro v372 w33 ho hb hg hat; rw [← Ny371.out] at ho; have n0_ := Aside0.mk (Kd.R_after (ok := (fun _ => True)) (mvR_ HO_8.out) hg hat); have n1_ := Aside0.mk (Kd.R_over' (mvR_ HO367.out) (Kd.R_typed (mvR_ HO370.out)) (by decide) hg); have n2_ := Aside0.mk (hb); have n3_ := Aside0.mk ((show Kd.C (Kd.int .u8) w33 Ao28 y360.length y360 from by rw [Ny360.out]; exact Kd.C_take (m := ((ji18) : Int).toNat) ((Kd.R_reads' (Kd.R_after (ok := (fun _ => True)) (mvR_ HO_8.out) hg hat)).2.2) KL29.out)); have n4_ := Aside0.mk (ho); clear HO_8; clear HO367; clear HB; clear HR363; clear HO370; have HO_8 := n0_; have HO367 := n1_; have HB := n2_; have HR363 := n3_; have HO373 := n4_; clear n0_ n1_ n2_ n3_ n4_; clear ho hb hg hat) | ((with_reducible refine gate_builtin (b := .append) (xs := #[.tmp 75, .tmp 77]) rfl ?_); (try (refine gate_guard (by rfl) ?_; dsimp only)); at_builtin; refine Kd.R_append (Kd.int .u8) (w0 := w) w.heap.size rfl (.tmp 75) (.tmp 77) 23 5 (.int .u8 0) 1 rfl Try.underlying23 info5 rfl (by decide) (by omega) v372 y371 a2 [.int .u8 a2] (fun k_ => some k_ ≠ (.slice Ao28 t354.length co28 : Value).ownBlock) (fun _ => False) rfl rfl ?aP (fun _ hk => hk.elim) ?aF ?aO ?aB ?aS ?aL ?_; (case aP => exact rfl); (case aB => exact (bq0_ HB.out)); (case aF => exact (fun k_ hk => Kd.fresh' (Kd.R_lt (mvR_ HO_8.out)) k_ hk)); (case aO => exact (mvR_ HO373.out)); (case aS => exact (below_size (bq0_ HB.out))); (case aL => have := LMc23.out; omega); intro v375 w34 ho hb hg hat; rw [← Ny374.out] at ho; have n0_ := Aside0.mk (Kd.R_after (ok := (fun _ => True)) (mvR_ HO_8.out) hg hat); have n1_ := Aside0.mk (Kd.R_over' (mvR_ HO367.out) (Kd.R_typed (mvR_ HO373.out)) (by decide) hg); have n2_ := Aside0.mk (hb); have n3_ := Aside0.mk ((show Kd.C (Kd.int .u8) w34 Ao28 y360.length y360 from by rw [Ny360.out]; exact Kd.C_take (m := ((ji18) : Int).toNat) ((Kd.R_reads' (Kd.R_after (ok := (fun _ => True)) (mvR_ HO_8.out) hg hat)).2.2) KL29.out)); have n4_ := Aside0.mk (ho); clear HO_8; clear HO367; clear HB; clear HR363; clear HO373; have HO_8 := n0_; have HO367 := n1_; have HB := n2_; have HR363 := n3_; have HO376 := n4_; clear n0_ n1_ n2_ n3_ n4_; clear ho hb hg hat; obtain ⟨Ao35, co35, eo35⟩ := Kd.R_slice HO376.out; subst eo35) | (go_at_call 11; (with_reducible refine (wire_Read.calls _ _ y374 t377 t378 _ ?side1 ?side2 A24.out).mono ?_); (case side1 => exact mvC_ ((Kd.R_reads' HO376.out).2.2)); (case side2 => exact (Kd.R_reads' HO376.out).2.1); rintro e w36 ⟨v379, rfl, ho0, hb⟩; have n0_ := Aside0.mk (Kd.R_below (mvR_ HO_8.out) hb); have n1_ := Aside0.mk (Kd.R_elder' (mvR_ HO367.out) (Kd.R_base ho0) hb); have n2_ := Aside0.mk (Kd.R_below (mvR_ HO376.out) hb); have n3_ := Aside0.mk (Kd.R_lower (Kd.R_new' ho0 (Kd.R_lt (mvR_ HO367.out))) (below_size (bq0_ HB.out))); have n4_ := Aside0.mk (Kd.C_below (by repeat (first | (with_reducible exact HR363.out) | (with_reducible refine Kd.C_alloc ?_ _) | (with_reducible refine Kd.C_drewN ?_ _) | (with_reducible refine Kd.C_drew ?_) | exact HR363.out)) hb); have n5_ := Aside0.mk (below_step (bq0_ HB.out) hb); clear HO_8; clear HO367; clear HO376; clear HR363; clear HB; have HO_8 := n0_; have HO367 := n1_; have HO376 := n2_; have HO380 := n3_; have HR363 := n4_; have HB := n5_; clear n0_ n1_ n2_ n3_ n4_ n5_; (try clear hb); (try clear ho0))); try go_wp2_with (first | (go_at_call 11; (with_reducible refine (wire_Read.calls _ _ y360 t364 t365 _ ?side1 ?side2 A21.out).mono ?_); (case side1 => repeat (first | exact (by repeat (first | (with_reducible exact HR363.out) | (with_reducible refine Kd.C_alloc ?_ _) | (with_reducible refine Kd.C_drewN ?_ _) | (with_reducible refine Kd.C_drew ?_) | exact HR363.out)) | (with_reducible refine Kd.C_alloc ?_ _) | (with_reducible refine Kd.C_drewN ?_ _) | (with_reducible refine Kd.C_drew ?_))); (case side2 => exact HC363.out); rintro e w30 ⟨v366, rfl, ho0, hb⟩; have n0_ := Aside0.mk (Kd.R_below (mvR_ HO_8.out) hb); have n1_ := Aside0.mk (Kd.R_lower ho0 (below_size (bq0_ HB.out))); have n2_ := Aside0.mk (Kd.C_below (by repeat (first | (with_reducible exact HR363.out) | (with_reducible refine Kd.C_alloc ?_ _) | (with_reducible refine Kd.C_drewN ?_ _) | (with_reducible refine Kd.C_drew ?_) | exact HR363.out)) hb); have n3_ := Aside0.mk (below_step (bq0_ HB.out) hb); clear HO_8; clear HR363; clear HB; have HO_8 := n0_; have HO367 := n1_; have HR363 := n2_; have HB := n3_; clear n0_ n1_ n2_ n3_; (try clear hb); (try clear ho0)) | ((with_reducible refine gate_dst (N := 73) rfl ?_); (try (refine gate_guard (by rfl) ?_; dsimp only)); refine Kd.R_lit (Kd.int .u8) _ 5 ?hg (N := 73) ?hd (xs := ([] : List Int)) (inner := []) (ok := fun _ => True) (okp := fun _ => True) ?hr ?hp (fun _ hk => hk) trivial (Below.refl _ _) (Nat.le_refl _) (by simp) ?_; (case hd => rfl); (case hg => rfl); (case hr => first | (go_simp; done) | (go_simp; rfl)); (case hp => exact (Reps.none _ _)); intro v369 w31 ho32 hb hg_ hnew_; clear hg_ hnew_; (first | rw [← Ny368.out] at ho32 | (simp only [Int.reduceToNat] at ho32; rw [← Ny368.out] at ho32)); have n0_ := Aside0.mk (Kd.R_elder' (mvR_ HO_8.out) (Kd.R_base ho32) hb); have n1_ := Aside0.mk (Kd.R_below (mvR_ HO367.out) hb); have n2_ := Aside0.mk (Kd.R_lower (Kd.R_new' ho32 (Kd.R_lt (mvR_ HO_8.out))) (below_size (bq0_ HB.out))); have n3_ := Aside0.mk (Kd.C_below (by repeat (first | (with_reducible exact HR363.out) | (with_reducible refine Kd.C_alloc ?_ _) | (with_reducible refine Kd.C_drewN ?_ _) | (with_reducible refine Kd.C_drew ?_) | exact HR363.out)) hb); have n4_ := Aside0.mk (below_step (bq0_ HB.out) hb); clear HO_8; clear HO367; clear HR363; clear HB; have HO_8 := n0_; have HO367 := n1_; have HO370 := n2_; have HR363 := n3_; have HB := n4_; clear n0_ n1_ n2_ n3_ n4_; clear hb ho32) | ((with_reducible refine gate_builtin (b := .append) (xs := #[.tmp 73, .tmp 74]) rfl ?_); (try (refine gate_guard (by rfl) ?_; dsimp only)); at_builtin; refine Kd.R_append_rows (Kd.int .u8) (w0 := w) w.heap.size rfl (.tmp 73) (.tmp 74) 23 5 (.int .u8 0) 1 rfl Try.underlying23 info5 rfl (by decide) (by omega) v369 y368 t354 _ _ _ (fun k_ => some k_ ≠ (.slice Ao28 t354.length co28 : Value).ownBlock) (fun _ => False) rfl rfl ?aO ?aR (fun _ _ h => h) (fun _ h => h.elim) ?aF ?aB ?aS ?aL ?_; (case aR => exact mvC_ ((Kd.R_reads' HO_8.out).2.2)); (case aB => exact (bq0_ HB.out)); (case aF => exact (fun k_ hk => Kd.fresh' (Kd.R_lt (mvR_ HO_8.out)) k_ hk)); (case aO => exact (by (with_reducible repeat (first | apply Kd.R_alloc | apply Kd.R_drewN | apply Kd.R_drew)); exact Kd.R_mono HO370.out (fun _ hk => hk.2))); (case aS => exact (below_size (bq0_ HB.out))); (case aL => have := LMc22.out; omega); intro v372 w33 ho hb hg hat; rw [← Ny371.out] at ho; have n0_ := Aside0.mk (Kd.R_after (ok := (fun _ => True)) (mvR_ HO_8.out) hg hat); have n1_ := Aside0.mk (Kd.R_over' (mvR_ HO367.out) (Kd.R_typed (mvR_ HO370.out)) (by decide) hg); have n2_ := Aside0.mk (hb); have n3_ := Aside0.mk ((show Kd.C (Kd.int .u8) w33 Ao28 y360.length y360 from by rw [Ny360.out]; exact Kd.C_take (m := ((ji18) : Int).toNat) ((Kd.R_reads' (Kd.R_after (ok := (fun _ => True)) (mvR_ HO_8.out) hg hat)).2.2) KL29.out)); have n4_ := Aside0.mk (ho); clear HO_8; clear HO367; clear HB; clear HR363; clear HO370; have HO_8 := n0_; have HO367 := n1_; have HB := n2_; have HR363 := n3_; have HO373 := n4_; clear n0_ n1_ n2_ n3_ n4_; clear ho hb hg hat) | ((with_reducible refine gate_builtin (b := .append) (xs := #[.tmp 75, .tmp 77]) rfl ?_); (try (refine gate_guard (by rfl) ?_; dsimp only)); at_builtin; refine Kd.R_append (Kd.int .u8) (w0 := w) w.heap.size rfl (.tmp 75) (.tmp 77) 23 5 (.int .u8 0) 1 rfl Try.underlying23 info5 rfl (by decide) (by omega) v372 y371 a2 [.int .u8 a2] (fun k_ => some k_ ≠ (.slice Ao28 t354.length co28 : Value).ownBlock) (fun _ => False) rfl rfl ?aP (fun _ hk => hk.elim) ?aF ?aO ?aB ?aS ?aL ?_; (case aP => exact rfl); (case aB => exact (bq0_ HB.out)); (case aF => exact (fun k_ hk => Kd.fresh' (Kd.R_lt (mvR_ HO_8.out)) k_ hk)); (case aO => exact (mvR_ HO373.out)); (case aS => exact (below_size (bq0_ HB.out))); (case aL => have := LMc23.out; omega); intro v375 w34 ho hb hg hat; rw [← Ny374.out] at ho; have n0_ := Aside0.mk (Kd.R_after (ok := (fun _ => True)) (mvR_ HO_8.out) hg hat); have n1_ := Aside0.mk (Kd.R_over' (mvR_ HO367.out) (Kd.R_typed (mvR_ HO373.out)) (by decide) hg); have n2_ := Aside0.mk (hb); have n3_ := Aside0.mk ((show Kd.C (Kd.int .u8) w34 Ao28 y360.length y360 from by rw [Ny360.out]; exact Kd.C_take (m := ((ji18) : Int).toNat) ((Kd.R_reads' (Kd.R_after (ok := (fun _ => True)) (mvR_ HO_8.out) hg hat)).2.2) KL29.out)); have n4_ := Aside0.mk (ho); clear HO_8; clear HO367; clear HB; clear HR363; clear HO373; have HO_8 := n0_; have HO367 := n1_; have HB := n2_; have HR363 := n3_; have HO376 := n4_; clear n0_ n1_ n2_ n3_ n4_; clear ho hb hg hat; obtain ⟨Ao35, co35, eo35⟩ := Kd.R_slice HO376.out; subst eo35) | (go_at_call 11; (with_reducible refine (wire_Read.calls _ _ y374 t377 t378 _ ?side1 ?side2 A24.out).mono ?_); (case side1 => exact mvC_ ((Kd.R_reads' HO376.out).2.2)); (case side2 => exact (Kd.R_reads' HO376.out).2.1); rintro e w36 ⟨v379, rfl, ho0, hb⟩; have n0_ := Aside0.mk (Kd.R_below (mvR_ HO_8.out) hb); have n1_ := Aside0.mk (Kd.R_elder' (mvR_ HO367.out) (Kd.R_base ho0) hb); have n2_ := Aside0.mk (Kd.R_below (mvR_ HO376.out) hb); have n3_ := Aside0.mk (Kd.R_lower (Kd.R_new' ho0 (Kd.R_lt (mvR_ HO367.out))) (below_size (bq0_ HB.out))); have n4_ := Aside0.mk (Kd.C_below (by repeat (first | (with_reducible exact HR363.out) | (with_reducible refine Kd.C_alloc ?_ _) | (with_reducible refine Kd.C_drewN ?_ _) | (with_reducible refine Kd.C_drew ?_) | exact HR363.out)) hb); have n5_ := Aside0.mk (below_step (bq0_ HB.out) hb); clear HO_8; clear HO367; clear HO376; clear HR363; clear HB; have HO_8 := n0_; have HO367 := n1_; have HO376 := n2_; have HO380 := n3_; have HR363 := n4_; have HB := n5_; clear n0_ n1_ n2_ n3_ n4_ n5_; (try clear hb); (try clear ho0))))
                go_ret
                exact ⟨by first | rfl | (simp [errW_none, errW_some] <;> rfl) | (simp only [← hji18]; first | rfl | (simp [errW_none, errW_some] <;> rfl)) | (simp [*, errW_none, errW_some] <;> rfl), by repeat (first | (with_reducible first | exact HB.out | apply below_alloc | apply pw_below_drewN | apply below_drew1) | exact HB.out)⟩
               ·rw [if_neg c27] at H
                have c27b0 : (t378 == 120) = false := beq_eq_false_iff_ne.mpr c27
                have c27b1 : (t378 != 120) = true := bne_iff_ne.mpr c27
                obtain rfl := Option.some.inj H
                obtain ⟨Ao37, co37, eo37⟩ := Kd.R_slice HO_8.out
                subst eo37
                have q38 : ((ji18) : Int) ≤ ((t354.length : Int) : Int) := od_
                obtain ⟨i038, hi038, _, hsz38, _⟩ := info_parts info5
                have hroom38 : t354.length ≤ co37 := (Kd.R_reads' HO_8.out).2.1
                have hC38 : Kd.C (Kd.int .u8) _ Ao37 t354.length t354 := (Kd.R_reads' HO_8.out).2.2
                have hcut38 := cut_to (P := Try.prog) 23 5 .i64 Try.underlying23 hi038 Ao37 t354.length co37 (ji18) od_ q38 hroom38
                have hr38 := Kd.C_take (m := ((ji18) : Int).toNat) hC38 (by omega)
                have hy38 : y360.length = ((ji18) : Int).toNat := (by rw [Ny360.out, List.length_take]; omega)
                rw [← Ny360.out] at hr38
                rw [← hy38] at hcut38
                have HR363 := Aside0.mk hr38
                have HC363 := Aside0.mk (show y360.length ≤ co37 from by omega)
                clear hr38 hC38 hroom38 hi038 hsz38
                have KY38 := Aside0.mk hy38
                clear hy38
                have KL38 := Aside0.mk (show ((ji18) : Int).toNat ≤ t354.length from by omega)
                replace q38 := eq_true q38
                go_wp2_with (first | (go_at_call 11; (with_reducible refine (wire_Read.calls _ _ y360 t364 t365 _ ?side1 ?side2 A21.out).mono ?_); (case side1 => repeat (first | exact (by repeat (first | (with_reducible exact HR363.out) | (with_reducible refine Kd.C_alloc ?_ _) | (with_reducible refine Kd.C_drewN ?_ _) | (with_reducible refine Kd.C_drew ?_) | exact HR363.out)) | (with_reducible refine Kd.C_alloc ?_ _) | (with_reducible refine Kd.C_drewN ?_ _) | (with_reducible refine Kd.C_drew ?_))); (case side2 => exact HC363.out); rintro e w39 ⟨v366, rfl, ho0, hb⟩; have n0_ := Aside0.mk (Kd.R_below (mvR_ HO_8.out) hb); have n1_ := Aside0.mk (Kd.R_lower ho0 (below_size (bq0_ HB.out))); have n2_ := Aside0.mk (Kd.C_below (by repeat (first | (with_reducible exact HR363.out) | (with_reducible refine Kd.C_alloc ?_ _) | (with_reducible refine Kd.C_drewN ?_ _) | (with_reducible refine Kd.C_drew ?_) | exact HR363.out)) hb); have n3_ := Aside0.mk (below_step (bq0_ HB.out) hb); clear HO_8; clear HR363; clear HB; have HO_8 := n0_; have HO367 := n1_; have HR363 := n2_; have HB := n3_; clear n0_ n1_ n2_ n3_; (try clear hb); (try clear ho0)) | ((with_reducible refine gate_dst (N := 73) rfl ?_); (try (refine gate_guard (by rfl) ?_; dsimp only)); refine Kd.R_lit (Kd.int .u8) _ 5 ?hg (N := 73) ?hd (xs := ([] : List Int)) (inner := []) (ok := fun _ => True) (okp := fun _ => True) ?hr ?hp (fun _ hk => hk) trivial (Below.refl _ _) (Nat.le_refl _) (by simp) ?_; (case hd => rfl); (case hg => rfl); (case hr => first | (go_simp; done) | (go_simp; rfl)); (case hp => exact (Reps.none _ _)); intro v369 w40 ho41 hb hg_ hnew_; clear hg_ hnew_; (first | rw [← Ny368.out] at ho41 | (simp only [Int.reduceToNat] at ho41; rw [← Ny368.out] at ho41)); have n0_ := Aside0.mk (Kd.R_elder' (mvR_ HO_8.out) (Kd.R_base ho41) hb); have n1_ := Aside0.mk (Kd.R_below (mvR_ HO367.out) hb); have n2_ := Aside0.mk (Kd.R_lower (Kd.R_new' ho41 (Kd.R_lt (mvR_ HO_8.out))) (below_size (bq0_ HB.out))); have n3_ := Aside0.mk (Kd.C_below (by repeat (first | (with_reducible exact HR363.out) | (with_reducible refine Kd.C_alloc ?_ _) | (with_reducible refine Kd.C_drewN ?_ _) | (with_reducible refine Kd.C_drew ?_) | exact HR363.out)) hb); have n4_ := Aside0.mk (below_step (bq0_ HB.out) hb); clear HO_8; clear HO367; clear HR363; clear HB; have HO_8 := n0_; have HO367 := n1_; have HO370 := n2_; have HR363 := n3_; have HB := n4_; clear n0_ n1_ n2_ n3_ n4_; clear hb ho41) | ((with_reducible refine gate_builtin (b := .append) (xs := #[.tmp 73, .tmp 74]) rfl ?_); (try (refine gate_guard (by rfl) ?_; dsimp only)); at_builtin; refine Kd.R_append_rows (Kd.int .u8) (w0 := w) w.heap.size rfl (.tmp 73) (.tmp 74) 23 5 (.int .u8 0) 1 rfl Try.underlying23 info5 rfl (by decide) (by omega) v369 y368 t354 _ _ _ (fun k_ => some k_ ≠ (.slice Ao37 t354.length co37 : Value).ownBlock) (fun _ => False) rfl rfl ?aO ?aR (fun _ _ h => h) (fun _ h => h.elim) ?aF ?aB ?aS ?aL ?_; (case aR => exact mvC_ ((Kd.R_reads' HO_8.out).2.2)); (case aB => exact (bq0_ HB.out)); (case aF => exact (fun k_ hk => Kd.fresh' (Kd.R_lt (mvR_ HO_8.out)) k_ hk)); (case aO => exact (by (with_reducible repeat (first | apply Kd.R_alloc | apply Kd.R_drewN | apply Kd.R_drew)); exact Kd.R_mono HO370.out (fun _ hk => hk.2))); (case aS => exact (below_size (bq0_ HB.out))); (case aL => have := LMc22.out; omega); intro v372 w42 ho hb hg hat; rw [← Ny371.out] at ho; have n0_ := Aside0.mk (Kd.R_after (ok := (fun _ => True)) (mvR_ HO_8.out) hg hat); have n1_ := Aside0.mk (Kd.R_over' (mvR_ HO367.out) (Kd.R_typed (mvR_ HO370.out)) (by decide) hg); have n2_ := Aside0.mk (hb); have n3_ := Aside0.mk ((show Kd.C (Kd.int .u8) w42 Ao37 y360.length y360 from by rw [Ny360.out]; exact Kd.C_take (m := ((ji18) : Int).toNat) ((Kd.R_reads' (Kd.R_after (ok := (fun _ => True)) (mvR_ HO_8.out) hg hat)).2.2) KL38.out)); have n4_ := Aside0.mk (ho); clear HO_8; clear HO367; clear HB; clear HR363; clear HO370; have HO_8 := n0_; have HO367 := n1_; have HB := n2_; have HR363 := n3_; have HO373 := n4_; clear n0_ n1_ n2_ n3_ n4_; clear ho hb hg hat) | ((with_reducible refine gate_builtin (b := .append) (xs := #[.tmp 75, .tmp 77]) rfl ?_); (try (refine gate_guard (by rfl) ?_; dsimp only)); at_builtin; refine Kd.R_append (Kd.int .u8) (w0 := w) w.heap.size rfl (.tmp 75) (.tmp 77) 23 5 (.int .u8 0) 1 rfl Try.underlying23 info5 rfl (by decide) (by omega) v372 y371 a2 [.int .u8 a2] (fun k_ => some k_ ≠ (.slice Ao37 t354.length co37 : Value).ownBlock) (fun _ => False) rfl rfl ?aP (fun _ hk => hk.elim) ?aF ?aO ?aB ?aS ?aL ?_; (case aP => exact rfl); (case aB => exact (bq0_ HB.out)); (case aF => exact (fun k_ hk => Kd.fresh' (Kd.R_lt (mvR_ HO_8.out)) k_ hk)); (case aO => exact (mvR_ HO373.out)); (case aS => exact (below_size (bq0_ HB.out))); (case aL => have := LMc23.out; omega); intro v375 w43 ho hb hg hat; rw [← Ny374.out] at ho; have n0_ := Aside0.mk (Kd.R_after (ok := (fun _ => True)) (mvR_ HO_8.out) hg hat); have n1_ := Aside0.mk (Kd.R_over' (mvR_ HO367.out) (Kd.R_typed (mvR_ HO373.out)) (by decide) hg); have n2_ := Aside0.mk (hb); have n3_ := Aside0.mk ((show Kd.C (Kd.int .u8) w43 Ao37 y360.length y360 from by rw [Ny360.out]; exact Kd.C_take (m := ((ji18) : Int).toNat) ((Kd.R_reads' (Kd.R_after (ok := (fun _ => True)) (mvR_ HO_8.out) hg hat)).2.2) KL38.out)); have n4_ := Aside0.mk (ho); clear HO_8; clear HO367; clear HB; clear HR363; clear HO373; have HO_8 := n0_; have HO367 := n1_; have HB := n2_; have HR363 := n3_; have HO376 := n4_; clear n0_ n1_ n2_ n3_ n4_; clear ho hb hg hat; obtain ⟨Ao44, co44, eo44⟩ := Kd.R_slice HO376.out; subst eo44) | (go_at_call 11; (with_reducible refine (wire_Read.calls _ _ y374 t377 t378 _ ?side1 ?side2 A24.out).mono ?_); (case side1 => exact mvC_ ((Kd.R_reads' HO376.out).2.2)); (case side2 => exact (Kd.R_reads' HO376.out).2.1); rintro e w45 ⟨v379, rfl, ho0, hb⟩; have n0_ := Aside0.mk (Kd.R_below (mvR_ HO_8.out) hb); have n1_ := Aside0.mk (Kd.R_elder' (mvR_ HO367.out) (Kd.R_base ho0) hb); have n2_ := Aside0.mk (Kd.R_below (mvR_ HO376.out) hb); have n3_ := Aside0.mk (Kd.R_lower (Kd.R_new' ho0 (Kd.R_lt (mvR_ HO367.out))) (below_size (bq0_ HB.out))); have n4_ := Aside0.mk (Kd.C_below (by repeat (first | (with_reducible exact HR363.out) | (with_reducible refine Kd.C_alloc ?_ _) | (with_reducible refine Kd.C_drewN ?_ _) | (with_reducible refine Kd.C_drew ?_) | exact HR363.out)) hb); have n5_ := Aside0.mk (below_step (bq0_ HB.out) hb); clear HO_8; clear HO367; clear HO376; clear HR363; clear HB; have HO_8 := n0_; have HO367 := n1_; have HO376 := n2_; have HO380 := n3_; have HR363 := n4_; have HB := n5_; clear n0_ n1_ n2_ n3_ n4_ n5_; (try clear hb); (try clear ho0)))
                repeat (go_quiet (first | (go_at_call 11; (with_reducible refine (wire_Read.calls _ _ y360 t364 t365 _ ?side1 ?side2 A21.out).mono ?_); (case side1 => repeat (first | exact (by repeat (first | (with_reducible exact HR363.out) | (with_reducible refine Kd.C_alloc ?_ _) | (with_reducible refine Kd.C_drewN ?_ _) | (with_reducible refine Kd.C_drew ?_) | exact HR363.out)) | (with_reducible refine Kd.C_alloc ?_ _) | (with_reducible refine Kd.C_drewN ?_ _) | (with_reducible refine Kd.C_drew ?_))); (case side2 => exact HC363.out); rintro e w39 ⟨v366, rfl, ho0, hb⟩; have n0_ := Aside0.mk (Kd.R_below (mvR_ HO_8.out) hb); have n1_ := Aside0.mk (Kd.R_lower ho0 (below_size (bq0_ HB.out))); have n2_ := Aside0.mk (Kd.C_below (by repeat (first | (with_reducible exact HR363.out) | (with_reducible refine Kd.C_alloc ?_ _) | (with_reducible refine Kd.C_drewN ?_ _) | (with_reducible refine Kd.C_drew ?_) | exact HR363.out)) hb); have n3_ := Aside0.mk (below_step (bq0_ HB.out) hb); clear HO_8; clear HR363; clear HB; have HO_8 := n0_; have HO367 := n1_; have HR363 := n2_; have HB := n3_; clear n0_ n1_ n2_ n3_; (try clear hb); (try clear ho0)) | ((with_reducible refine gate_dst (N := 73) rfl ?_); (try (refine gate_guard (by rfl) ?_; dsimp only)); refine Kd.R_lit (Kd.int .u8) _ 5 ?hg (N := 73) ?hd (xs := ([] : List Int)) (inner := []) (ok := fun _ => True) (okp := fun _ => True) ?hr ?hp (fun _ hk => hk) trivial (Below.refl _ _) (Nat.le_refl _) (by simp) ?_; (case hd => rfl); (case hg => rfl); (case hr => first | (go_simp; done) | (go_simp; rfl)); (case hp => exact (Reps.none _ _)); intro v369 w40 ho41 hb hg_ hnew_; clear hg_ hnew_; (first | rw [← Ny368.out] at ho41 | (simp only [Int.reduceToNat] at ho41; rw [← Ny368.out] at ho41)); have n0_ := Aside0.mk (Kd.R_elder' (mvR_ HO_8.out) (Kd.R_base ho41) hb); have n1_ := Aside0.mk (Kd.R_below (mvR_ HO367.out) hb); have n2_ := Aside0.mk (Kd.R_lower (Kd.R_new' ho41 (Kd.R_lt (mvR_ HO_8.out))) (below_size (bq0_ HB.out))); have n3_ := Aside0.mk (Kd.C_below (by repeat (first | (with_reducible exact HR363.out) | (with_reducible refine Kd.C_alloc ?_ _) | (with_reducible refine Kd.C_drewN ?_ _) | (with_reducible refine Kd.C_drew ?_) | exact HR363.out)) hb); have n4_ := Aside0.mk (below_step (bq0_ HB.out) hb); clear HO_8; clear HO367; clear HR363; clear HB; have HO_8 := n0_; have HO367 := n1_; have HO370 := n2_; have HR363 := n3_; have HB := n4_; clear n0_ n1_ n2_ n3_ n4_; clear hb ho41) | ((with_reducible refine gate_builtin (b := .append) (xs := #[.tmp 73, .tmp 74]) rfl ?_); (try (refine gate_guard (by rfl) ?_; dsimp only)); at_builtin; refine Kd.R_append_rows (Kd.int .u8) (w0 := w) w.heap.size rfl (.tmp 73) (.tmp 74) 23 5 (.int .u8 0) 1 rfl Try.underlying23 info5 rfl (by decide) (by omega) v369 y368 t354 _ _ _ (fun k_ => some k_ ≠ (.slice Ao37 t354.length co37 : Value).ownBlock) (fun _ => False) rfl rfl ?aO ?aR (fun _ _ h => h) (fun _ h => h.elim) ?aF ?aB ?aS ?aL ?_; (case aR => exact mvC_ ((Kd.R_reads' HO_8.out).2.2)); (case aB => exact (bq0_ HB.out)); (case aF => exact (fun k_ hk => Kd.fresh' (Kd.R_lt (mvR_ HO_8.out)) k_ hk)); (case aO => exact (by (with_reducible repeat (first | apply Kd.R_alloc | apply Kd.R_drewN | apply Kd.R_drew)); exact Kd.R_mono HO370.out (fun _ hk => hk.2))); (case aS => exact (below_size (bq0_ HB.out))); (case aL => have := LMc22.out; omega); intro v372 w42 ho hb hg hat; rw [← Ny371.out] at ho; have n0_ := Aside0.mk (Kd.R_after (ok := (fun _ => True)) (mvR_ HO_8.out) hg hat); have n1_ := Aside0.mk (Kd.R_over' (mvR_ HO367.out) (Kd.R_typed (mvR_ HO370.out)) (by decide) hg); have n2_ := Aside0.mk (hb); have n3_ := Aside0.mk ((show Kd.C (Kd.int .u8) w42 Ao37 y360.length y360 from by rw [Ny360.out]; exact Kd.C_take (m := ((ji18) : Int).toNat) ((Kd.R_reads' (Kd.R_after (ok := (fun _ => True)) (mvR_ HO_8.out) hg hat)).2.2) KL38.out)); have n4_ := Aside0.mk (ho); clear HO_8; clear HO367; clear HB; clear HR363; clear HO370; have HO_8 := n0_; have HO367 := n1_; have HB := n2_; have HR363 := n3_; have HO373 := n4_; clear n0_ n1_ n2_ n3_ n4_; clear ho hb hg hat) | ((with_reducible refine gate_builtin (b := .append) (xs := #[.tmp 75, .tmp 77]) rfl ?_); (try (refine gate_guard (by rfl) ?_; dsimp only)); at_builtin; refine Kd.R_append (Kd.int .u8) (w0 := w) w.heap.size rfl (.tmp 75) (.tmp 77) 23 5 (.int .u8 0) 1 rfl Try.underlying23 info5 rfl (by decide) (by omega) v372 y371 a2 [.int .u8 a2] (fun k_ => some k_ ≠ (.slice Ao37 t354.length co37 : Value).ownBlock) (fun _ => False) rfl rfl ?aP (fun _ hk => hk.elim) ?aF ?aO ?aB ?aS ?aL ?_; (case aP => exact rfl); (case aB => exact (bq0_ HB.out)); (case aF => exact (fun k_ hk => Kd.fresh' (Kd.R_lt (mvR_ HO_8.out)) k_ hk)); (case aO => exact (mvR_ HO373.out)); (case aS => exact (below_size (bq0_ HB.out))); (case aL => have := LMc23.out; omega); intro v375 w43 ho hb hg hat; rw [← Ny374.out] at ho; have n0_ := Aside0.mk (Kd.R_after (ok := (fun _ => True)) (mvR_ HO_8.out) hg hat); have n1_ := Aside0.mk (Kd.R_over' (mvR_ HO367.out) (Kd.R_typed (mvR_ HO373.out)) (by decide) hg); have n2_ := Aside0.mk (hb); have n3_ := Aside0.mk ((show Kd.C (Kd.int .u8) w43 Ao37 y360.length y360 from by rw [Ny360.out]; exact Kd.C_take (m := ((ji18) : Int).toNat) ((Kd.R_reads' (Kd.R_after (ok := (fun _ => True)) (mvR_ HO_8.out) hg hat)).2.2) KL38.out)); have n4_ := Aside0.mk (ho); clear HO_8; clear HO367; clear HB; clear HR363; clear HO373; have HO_8 := n0_; have HO367 := n1_; have HB := n2_; have HR363 := n3_; have HO376 := n4_; clear n0_ n1_ n2_ n3_ n4_; clear ho hb hg hat; obtain ⟨Ao44, co44, eo44⟩ := Kd.R_slice HO376.out; subst eo44) | (go_at_call 11; (with_reducible refine (wire_Read.calls _ _ y374 t377 t378 _ ?side1 ?side2 A24.out).mono ?_); (case side1 => exact mvC_ ((Kd.R_reads' HO376.out).2.2)); (case side2 => exact (Kd.R_reads' HO376.out).2.1); rintro e w45 ⟨v379, rfl, ho0, hb⟩; have n0_ := Aside0.mk (Kd.R_below (mvR_ HO_8.out) hb); have n1_ := Aside0.mk (Kd.R_elder' (mvR_ HO367.out) (Kd.R_base ho0) hb); have n2_ := Aside0.mk (Kd.R_below (mvR_ HO376.out) hb); have n3_ := Aside0.mk (Kd.R_lower (Kd.R_new' ho0 (Kd.R_lt (mvR_ HO367.out))) (below_size (bq0_ HB.out))); have n4_ := Aside0.mk (Kd.C_below (by repeat (first | (with_reducible exact HR363.out) | (with_reducible refine Kd.C_alloc ?_ _) | (with_reducible refine Kd.C_drewN ?_ _) | (with_reducible refine Kd.C_drew ?_) | exact HR363.out)) hb); have n5_ := Aside0.mk (below_step (bq0_ HB.out) hb); clear HO_8; clear HO367; clear HO376; clear HR363; clear HB; have HO_8 := n0_; have HO367 := n1_; have HO376 := n2_; have HO380 := n3_; have HR363 := n4_; have HB := n5_; clear n0_ n1_ n2_ n3_ n4_ n5_; (try clear hb); (try clear ho0))); try go_wp2_with (first | (go_at_call 11; (with_reducible refine (wire_Read.calls _ _ y360 t364 t365 _ ?side1 ?side2 A21.out).mono ?_); (case side1 => repeat (first | exact (by repeat (first | (with_reducible exact HR363.out) | (with_reducible refine Kd.C_alloc ?_ _) | (with_reducible refine Kd.C_drewN ?_ _) | (with_reducible refine Kd.C_drew ?_) | exact HR363.out)) | (with_reducible refine Kd.C_alloc ?_ _) | (with_reducible refine Kd.C_drewN ?_ _) | (with_reducible refine Kd.C_drew ?_))); (case side2 => exact HC363.out); rintro e w39 ⟨v366, rfl, ho0, hb⟩; have n0_ := Aside0.mk (Kd.R_below (mvR_ HO_8.out) hb); have n1_ := Aside0.mk (Kd.R_lower ho0 (below_size (bq0_ HB.out))); have n2_ := Aside0.mk (Kd.C_below (by repeat (first | (with_reducible exact HR363.out) | (with_reducible refine Kd.C_alloc ?_ _) | (with_reducible refine Kd.C_drewN ?_ _) | (with_reducible refine Kd.C_drew ?_) | exact HR363.out)) hb); have n3_ := Aside0.mk (below_step (bq0_ HB.out) hb); clear HO_8; clear HR363; clear HB; have HO_8 := n0_; have HO367 := n1_; have HR363 := n2_; have HB := n3_; clear n0_ n1_ n2_ n3_; (try clear hb); (try clear ho0)) | ((with_reducible refine gate_dst (N := 73) rfl ?_); (try (refine gate_guard (by rfl) ?_; dsimp only)); refine Kd.R_lit (Kd.int .u8) _ 5 ?hg (N := 73) ?hd (xs := ([] : List Int)) (inner := []) (ok := fun _ => True) (okp := fun _ => True) ?hr ?hp (fun _ hk => hk) trivial (Below.refl _ _) (Nat.le_refl _) (by simp) ?_; (case hd => rfl); (case hg => rfl); (case hr => first | (go_simp; done) | (go_simp; rfl)); (case hp => exact (Reps.none _ _)); intro v369 w40 ho41 hb hg_ hnew_; clear hg_ hnew_; (first | rw [← Ny368.out] at ho41 | (simp only [Int.reduceToNat] at ho41; rw [← Ny368.out] at ho41)); have n0_ := Aside0.mk (Kd.R_elder' (mvR_ HO_8.out) (Kd.R_base ho41) hb); have n1_ := Aside0.mk (Kd.R_below (mvR_ HO367.out) hb); have n2_ := Aside0.mk (Kd.R_lower (Kd.R_new' ho41 (Kd.R_lt (mvR_ HO_8.out))) (below_size (bq0_ HB.out))); have n3_ := Aside0.mk (Kd.C_below (by repeat (first | (with_reducible exact HR363.out) | (with_reducible refine Kd.C_alloc ?_ _) | (with_reducible refine Kd.C_drewN ?_ _) | (with_reducible refine Kd.C_drew ?_) | exact HR363.out)) hb); have n4_ := Aside0.mk (below_step (bq0_ HB.out) hb); clear HO_8; clear HO367; clear HR363; clear HB; have HO_8 := n0_; have HO367 := n1_; have HO370 := n2_; have HR363 := n3_; have HB := n4_; clear n0_ n1_ n2_ n3_ n4_; clear hb ho41) | ((with_reducible refine gate_builtin (b := .append) (xs := #[.tmp 73, .tmp 74]) rfl ?_); (try (refine gate_guard (by rfl) ?_; dsimp only)); at_builtin; refine Kd.R_append_rows (Kd.int .u8) (w0 := w) w.heap.size rfl (.tmp 73) (.tmp 74) 23 5 (.int .u8 0) 1 rfl Try.underlying23 info5 rfl (by decide) (by omega) v369 y368 t354 _ _ _ (fun k_ => some k_ ≠ (.slice Ao37 t354.length co37 : Value).ownBlock) (fun _ => False) rfl rfl ?aO ?aR (fun _ _ h => h) (fun _ h => h.elim) ?aF ?aB ?aS ?aL ?_; (case aR => exact mvC_ ((Kd.R_reads' HO_8.out).2.2)); (case aB => exact (bq0_ HB.out)); (case aF => exact (fun k_ hk => Kd.fresh' (Kd.R_lt (mvR_ HO_8.out)) k_ hk)); (case aO => exact (by (with_reducible repeat (first | apply Kd.R_alloc | apply Kd.R_drewN | apply Kd.R_drew)); exact Kd.R_mono HO370.out (fun _ hk => hk.2))); (case aS => exact (below_size (bq0_ HB.out))); (case aL => have := LMc22.out; omega); intro v372 w42 ho hb hg hat; rw [← Ny371.out] at ho; have n0_ := Aside0.mk (Kd.R_after (ok := (fun _ => True)) (mvR_ HO_8.out) hg hat); have n1_ := Aside0.mk (Kd.R_over' (mvR_ HO367.out) (Kd.R_typed (mvR_ HO370.out)) (by decide) hg); have n2_ := Aside0.mk (hb); have n3_ := Aside0.mk ((show Kd.C (Kd.int .u8) w42 Ao37 y360.length y360 from by rw [Ny360.out]; exact Kd.C_take (m := ((ji18) : Int).toNat) ((Kd.R_reads' (Kd.R_after (ok := (fun _ => True)) (mvR_ HO_8.out) hg hat)).2.2) KL38.out)); have n4_ := Aside0.mk (ho); clear HO_8; clear HO367; clear HB; clear HR363; clear HO370; have HO_8 := n0_; have HO367 := n1_; have HB := n2_; have HR363 := n3_; have HO373 := n4_; clear n0_ n1_ n2_ n3_ n4_; clear ho hb hg hat) | ((with_reducible refine gate_builtin (b := .append) (xs := #[.tmp 75, .tmp 77]) rfl ?_); (try (refine gate_guard (by rfl) ?_; dsimp only)); at_builtin; refine Kd.R_append (Kd.int .u8) (w0 := w) w.heap.size rfl (.tmp 75) (.tmp 77) 23 5 (.int .u8 0) 1 rfl Try.underlying23 info5 rfl (by decide) (by omega) v372 y371 a2 [.int .u8 a2] (fun k_ => some k_ ≠ (.slice Ao37 t354.length co37 : Value).ownBlock) (fun _ => False) rfl rfl ?aP (fun _ hk => hk.elim) ?aF ?aO ?aB ?aS ?aL ?_; (case aP => exact rfl); (case aB => exact (bq0_ HB.out)); (case aF => exact (fun k_ hk => Kd.fresh' (Kd.R_lt (mvR_ HO_8.out)) k_ hk)); (case aO => exact (mvR_ HO373.out)); (case aS => exact (below_size (bq0_ HB.out))); (case aL => have := LMc23.out; omega); intro v375 w43 ho hb hg hat; rw [← Ny374.out] at ho; have n0_ := Aside0.mk (Kd.R_after (ok := (fun _ => True)) (mvR_ HO_8.out) hg hat); have n1_ := Aside0.mk (Kd.R_over' (mvR_ HO367.out) (Kd.R_typed (mvR_ HO373.out)) (by decide) hg); have n2_ := Aside0.mk (hb); have n3_ := Aside0.mk ((show Kd.C (Kd.int .u8) w43 Ao37 y360.length y360 from by rw [Ny360.out]; exact Kd.C_take (m := ((ji18) : Int).toNat) ((Kd.R_reads' (Kd.R_after (ok := (fun _ => True)) (mvR_ HO_8.out) hg hat)).2.2) KL38.out)); have n4_ := Aside0.mk (ho); clear HO_8; clear HO367; clear HB; clear HR363; clear HO373; have HO_8 := n0_; have HO367 := n1_; have HB := n2_; have HR363 := n3_; have HO376 := n4_; clear n0_ n1_ n2_ n3_ n4_; clear ho hb hg hat; obtain ⟨Ao44, co44, eo44⟩ := Kd.R_slice HO376.out; subst eo44) | (go_at_call 11; (with_reducible refine (wire_Read.calls _ _ y374 t377 t378 _ ?side1 ?side2 A24.out).mono ?_); (case side1 => exact mvC_ ((Kd.R_reads' HO376.out).2.2)); (case side2 => exact (Kd.R_reads' HO376.out).2.1); rintro e w45 ⟨v379, rfl, ho0, hb⟩; have n0_ := Aside0.mk (Kd.R_below (mvR_ HO_8.out) hb); have n1_ := Aside0.mk (Kd.R_elder' (mvR_ HO367.out) (Kd.R_base ho0) hb); have n2_ := Aside0.mk (Kd.R_below (mvR_ HO376.out) hb); have n3_ := Aside0.mk (Kd.R_lower (Kd.R_new' ho0 (Kd.R_lt (mvR_ HO367.out))) (below_size (bq0_ HB.out))); have n4_ := Aside0.mk (Kd.C_below (by repeat (first | (with_reducible exact HR363.out) | (with_reducible refine Kd.C_alloc ?_ _) | (with_reducible refine Kd.C_drewN ?_ _) | (with_reducible refine Kd.C_drew ?_) | exact HR363.out)) hb); have n5_ := Aside0.mk (below_step (bq0_ HB.out) hb); clear HO_8; clear HO367; clear HO376; clear HR363; clear HB; have HO_8 := n0_; have HO367 := n1_; have HO376 := n2_; have HO380 := n3_; have HR363 := n4_; have HB := n5_; clear n0_ n1_ n2_ n3_ n4_ n5_; (try clear hb); (try clear ho0))))
                go_ret
                exact ⟨by first | rfl | (simp [errW_none, errW_some] <;> rfl) | (simp only [← hji18]; first | rfl | (simp [errW_none, errW_some] <;> rfl)) | (simp [*, errW_none, errW_some] <;> rfl), by repeat (first | (with_reducible first | exact HB.out | apply below_alloc | apply pw_below_drewN | apply below_drew1) | exact HB.out)⟩
              ·rw [if_neg c26] at H
               have c26b0 : (t365 == 120) = false := beq_eq_false_iff_ne.mpr c26
               have c26b1 : (t365 != 120) = true := bne_iff_ne.mpr c26
               obtain rfl := Option.some.inj H
               obtain ⟨Ao46, co46, eo46⟩ := Kd.R_slice HO_8.out
               subst eo46
               have q47 : ((ji18) : Int) ≤ ((t354.length : Int) : Int) := od_
               obtain ⟨i047, hi047, _, hsz47, _⟩ := info_parts info5
               have hroom47 : t354.length ≤ co46 := (Kd.R_reads' HO_8.out).2.1
               have hC47 : Kd.C (Kd.int .u8) _ Ao46 t354.length t354 := (Kd.R_reads' HO_8.out).2.2
               have hcut47 := cut_to (P := Try.prog) 23 5 .i64 Try.underlying23 hi047 Ao46 t354.length co46 (ji18) od_ q47 hroom47
               have hr47 := Kd.C_take (m := ((ji18) : Int).toNat) hC47 (by omega)
               have hy47 : y360.length = ((ji18) : Int).toNat := (by rw [Ny360.out, List.length_take]; omega)
               rw [← Ny360.out] at hr47
               rw [← hy47] at hcut47
               have HR363 := Aside0.mk hr47
               have HC363 := Aside0.mk (show y360.length ≤ co46 from by omega)
               clear hr47 hC47 hroom47 hi047 hsz47
               have KY47 := Aside0.mk hy47
               clear hy47
               have KL47 := Aside0.mk (show ((ji18) : Int).toNat ≤ t354.length from by omega)
               replace q47 := eq_true q47
               go_wp2_with (first | (go_at_call 11; (with_reducible refine (wire_Read.calls _ _ y360 t364 t365 _ ?side1 ?side2 A21.out).mono ?_); (case side1 => repeat (first | exact (by repeat (first | (with_reducible exact HR363.out) | (with_reducible refine Kd.C_alloc ?_ _) | (with_reducible refine Kd.C_drewN ?_ _) | (with_reducible refine Kd.C_drew ?_) | exact HR363.out)) | (with_reducible refine Kd.C_alloc ?_ _) | (with_reducible refine Kd.C_drewN ?_ _) | (with_reducible refine Kd.C_drew ?_))); (case side2 => exact HC363.out); rintro e w48 ⟨v366, rfl, ho0, hb⟩; have n0_ := Aside0.mk (Kd.R_below (mvR_ HO_8.out) hb); have n1_ := Aside0.mk (Kd.R_lower ho0 (below_size (bq0_ HB.out))); have n2_ := Aside0.mk (Kd.C_below (by repeat (first | (with_reducible exact HR363.out) | (with_reducible refine Kd.C_alloc ?_ _) | (with_reducible refine Kd.C_drewN ?_ _) | (with_reducible refine Kd.C_drew ?_) | exact HR363.out)) hb); have n3_ := Aside0.mk (below_step (bq0_ HB.out) hb); clear HO_8; clear HR363; clear HB; have HO_8 := n0_; have HO367 := n1_; have HR363 := n2_; have HB := n3_; clear n0_ n1_ n2_ n3_; (try clear hb); (try clear ho0)) | ((with_reducible refine gate_dst (N := 73) rfl ?_); (try (refine gate_guard (by rfl) ?_; dsimp only)); refine Kd.R_lit (Kd.int .u8) _ 5 ?hg (N := 73) ?hd (xs := ([] : List Int)) (inner := []) (ok := fun _ => True) (okp := fun _ => True) ?hr ?hp (fun _ hk => hk) trivial (Below.refl _ _) (Nat.le_refl _) (by simp) ?_; (case hd => rfl); (case hg => rfl); (case hr => first | (go_simp; done) | (go_simp; rfl)); (case hp => exact (Reps.none _ _)); intro v369 w49 ho50 hb hg_ hnew_; clear hg_ hnew_; (first | rw [← Ny368.out] at ho50 | (simp only [Int.reduceToNat] at ho50; rw [← Ny368.out] at ho50)); have n0_ := Aside0.mk (Kd.R_elder' (mvR_ HO_8.out) (Kd.R_base ho50) hb); have n1_ := Aside0.mk (Kd.R_below (mvR_ HO367.out) hb); have n2_ := Aside0.mk (Kd.R_lower (Kd.R_new' ho50 (Kd.R_lt (mvR_ HO_8.out))) (below_size (bq0_ HB.out))); have n3_ := Aside0.mk (Kd.C_below (by repeat (first | (with_reducible exact HR363.out) | (with_reducible refine Kd.C_alloc ?_ _) | (with_reducible refine Kd.C_drewN ?_ _) | (with_reducible refine Kd.C_drew ?_) | exact HR363.out)) hb); have n4_ := Aside0.mk (below_step (bq0_ HB.out) hb); clear HO_8; clear HO367; clear HR363; clear HB; have HO_8 := n0_; have HO367 := n1_; have HO370 := n2_; have HR363 := n3_; have HB := n4_; clear n0_ n1_ n2_ n3_ n4_; clear hb ho50) | ((with_reducible refine gate_builtin (b := .append) (xs := #[.tmp 73, .tmp 74]) rfl ?_); (try (refine gate_guard (by rfl) ?_; dsimp only)); at_builtin; refine Kd.R_append_rows (Kd.int .u8) (w0 := w) w.heap.size rfl (.tmp 73) (.tmp 74) 23 5 (.int .u8 0) 1 rfl Try.underlying23 info5 rfl (by decide) (by omega) v369 y368 t354 _ _ _ (fun k_ => some k_ ≠ (.slice Ao46 t354.length co46 : Value).ownBlock) (fun _ => False) rfl rfl ?aO ?aR (fun _ _ h => h) (fun _ h => h.elim) ?aF ?aB ?aS ?aL ?_; (case aR => exact mvC_ ((Kd.R_reads' HO_8.out).2.2)); (case aB => exact (bq0_ HB.out)); (case aF => exact (fun k_ hk => Kd.fresh' (Kd.R_lt (mvR_ HO_8.out)) k_ hk)); (case aO => exact (by (with_reducible repeat (first | apply Kd.R_alloc | apply Kd.R_drewN | apply Kd.R_drew)); exact Kd.R_mono HO370.out (fun _ hk => hk.2))); (case aS => exact (below_size (bq0_ HB.out))); (case aL => have := LMc22.out; omega); intro v372 w51 ho hb hg hat; rw [← Ny371.out] at ho; have n0_ := Aside0.mk (Kd.R_after (ok := (fun _ => True)) (mvR_ HO_8.out) hg hat); have n1_ := Aside0.mk (Kd.R_over' (mvR_ HO367.out) (Kd.R_typed (mvR_ HO370.out)) (by decide) hg); have n2_ := Aside0.mk (hb); have n3_ := Aside0.mk ((show Kd.C (Kd.int .u8) w51 Ao46 y360.length y360 from by rw [Ny360.out]; exact Kd.C_take (m := ((ji18) : Int).toNat) ((Kd.R_reads' (Kd.R_after (ok := (fun _ => True)) (mvR_ HO_8.out) hg hat)).2.2) KL47.out)); have n4_ := Aside0.mk (ho); clear HO_8; clear HO367; clear HB; clear HR363; clear HO370; have HO_8 := n0_; have HO367 := n1_; have HB := n2_; have HR363 := n3_; have HO373 := n4_; clear n0_ n1_ n2_ n3_ n4_; clear ho hb hg hat) | ((with_reducible refine gate_builtin (b := .append) (xs := #[.tmp 75, .tmp 77]) rfl ?_); (try (refine gate_guard (by rfl) ?_; dsimp only)); at_builtin; refine Kd.R_append (Kd.int .u8) (w0 := w) w.heap.size rfl (.tmp 75) (.tmp 77) 23 5 (.int .u8 0) 1 rfl Try.underlying23 info5 rfl (by decide) (by omega) v372 y371 a2 [.int .u8 a2] (fun k_ => some k_ ≠ (.slice Ao46 t354.length co46 : Value).ownBlock) (fun _ => False) rfl rfl ?aP (fun _ hk => hk.elim) ?aF ?aO ?aB ?aS ?aL ?_; (case aP => exact rfl); (case aB => exact (bq0_ HB.out)); (case aF => exact (fun k_ hk => Kd.fresh' (Kd.R_lt (mvR_ HO_8.out)) k_ hk)); (case aO => exact (mvR_ HO373.out)); (case aS => exact (below_size (bq0_ HB.out))); (case aL => have := LMc23.out; omega); intro v375 w52 ho hb hg hat; rw [← Ny374.out] at ho; have n0_ := Aside0.mk (Kd.R_after (ok := (fun _ => True)) (mvR_ HO_8.out) hg hat); have n1_ := Aside0.mk (Kd.R_over' (mvR_ HO367.out) (Kd.R_typed (mvR_ HO373.out)) (by decide) hg); have n2_ := Aside0.mk (hb); have n3_ := Aside0.mk ((show Kd.C (Kd.int .u8) w52 Ao46 y360.length y360 from by rw [Ny360.out]; exact Kd.C_take (m := ((ji18) : Int).toNat) ((Kd.R_reads' (Kd.R_after (ok := (fun _ => True)) (mvR_ HO_8.out) hg hat)).2.2) KL47.out)); have n4_ := Aside0.mk (ho); clear HO_8; clear HO367; clear HB; clear HR363; clear HO373; have HO_8 := n0_; have HO367 := n1_; have HB := n2_; have HR363 := n3_; have HO376 := n4_; clear n0_ n1_ n2_ n3_ n4_; clear ho hb hg hat; obtain ⟨Ao53, co53, eo53⟩ := Kd.R_slice HO376.out; subst eo53) | (go_at_call 11; (with_reducible refine (wire_Read.calls _ _ y374 t377 t378 _ ?side1 ?side2 A24.out).mono ?_); (case side1 => exact mvC_ ((Kd.R_reads' HO376.out).2.2)); (case side2 => exact (Kd.R_reads' HO376.out).2.1); rintro e w54 ⟨v379, rfl, ho0, hb⟩; have n0_ := Aside0.mk (Kd.R_below (mvR_ HO_8.out) hb); have n1_ := Aside0.mk (Kd.R_elder' (mvR_ HO367.out) (Kd.R_base ho0) hb); have n2_ := Aside0.mk (Kd.R_below (mvR_ HO376.out) hb); have n3_ := Aside0.mk (Kd.R_lower (Kd.R_new' ho0 (Kd.R_lt (mvR_ HO367.out))) (below_size (bq0_ HB.out))); have n4_ := Aside0.mk (Kd.C_below (by repeat (first | (with_reducible exact HR363.out) | (with_reducible refine Kd.C_alloc ?_ _) | (with_reducible refine Kd.C_drewN ?_ _) | (with_reducible refine Kd.C_drew ?_) | exact HR363.out)) hb); have n5_ := Aside0.mk (below_step (bq0_ HB.out) hb); clear HO_8; clear HO367; clear HO376; clear HR363; clear HB; have HO_8 := n0_; have HO367 := n1_; have HO376 := n2_; have HO380 := n3_; have HR363 := n4_; have HB := n5_; clear n0_ n1_ n2_ n3_ n4_ n5_; (try clear hb); (try clear ho0)))
               repeat (go_quiet (first | (go_at_call 11; (with_reducible refine (wire_Read.calls _ _ y360 t364 t365 _ ?side1 ?side2 A21.out).mono ?_); (case side1 => repeat (first | exact (by repeat (first | (with_reducible exact HR363.out) | (with_reducible refine Kd.C_alloc ?_ _) | (with_reducible refine Kd.C_drewN ?_ _) | (with_reducible refine Kd.C_drew ?_) | exact HR363.out)) | (with_reducible refine Kd.C_alloc ?_ _) | (with_reducible refine Kd.C_drewN ?_ _) | (with_reducible refine Kd.C_drew ?_))); (case side2 => exact HC363.out); rintro e w48 ⟨v366, rfl, ho0, hb⟩; have n0_ := Aside0.mk (Kd.R_below (mvR_ HO_8.out) hb); have n1_ := Aside0.mk (Kd.R_lower ho0 (below_size (bq0_ HB.out))); have n2_ := Aside0.mk (Kd.C_below (by repeat (first | (with_reducible exact HR363.out) | (with_reducible refine Kd.C_alloc ?_ _) | (with_reducible refine Kd.C_drewN ?_ _) | (with_reducible refine Kd.C_drew ?_) | exact HR363.out)) hb); have n3_ := Aside0.mk (below_step (bq0_ HB.out) hb); clear HO_8; clear HR363; clear HB; have HO_8 := n0_; have HO367 := n1_; have HR363 := n2_; have HB := n3_; clear n0_ n1_ n2_ n3_; (try clear hb); (try clear ho0)) | ((with_reducible refine gate_dst (N := 73) rfl ?_); (try (refine gate_guard (by rfl) ?_; dsimp only)); refine Kd.R_lit (Kd.int .u8) _ 5 ?hg (N := 73) ?hd (xs := ([] : List Int)) (inner := []) (ok := fun _ => True) (okp := fun _ => True) ?hr ?hp (fun _ hk => hk) trivial (Below.refl _ _) (Nat.le_refl _) (by simp) ?_; (case hd => rfl); (case hg => rfl); (case hr => first | (go_simp; done) | (go_simp; rfl)); (case hp => exact (Reps.none _ _)); intro v369 w49 ho50 hb hg_ hnew_; clear hg_ hnew_; (first | rw [← Ny368.out] at ho50 | (simp only [Int.reduceToNat] at ho50; rw [← Ny368.out] at ho50)); have n0_ := Aside0.mk (Kd.R_elder' (mvR_ HO_8.out) (Kd.R_base ho50) hb); have n1_ := Aside0.mk (Kd.R_below (mvR_ HO367.out) hb); have n2_ := Aside0.mk (Kd.R_lower (Kd.R_new' ho50 (Kd.R_lt (mvR_ HO_8.out))) (below_size (bq0_ HB.out))); have n3_ := Aside0.mk (Kd.C_below (by repeat (first | (with_reducible exact HR363.out) | (with_reducible refine Kd.C_alloc ?_ _) | (with_reducible refine Kd.C_drewN ?_ _) | (with_reducible refine Kd.C_drew ?_) | exact HR363.out)) hb); have n4_ := Aside0.mk (below_step (bq0_ HB.out) hb); clear HO_8; clear HO367; clear HR363; clear HB; have HO_8 := n0_; have HO367 := n1_; have HO370 := n2_; have HR363 := n3_; have HB := n4_; clear n0_ n1_ n2_ n3_ n4_; clear hb ho50) | ((with_reducible refine gate_builtin (b := .append) (xs := #[.tmp 73, .tmp 74]) rfl ?_); (try (refine gate_guard (by rfl) ?_; dsimp only)); at_builtin; refine Kd.R_append_rows (Kd.int .u8) (w0 := w) w.heap.size rfl (.tmp 73) (.tmp 74) 23 5 (.int .u8 0) 1 rfl Try.underlying23 info5 rfl (by decide) (by omega) v369 y368 t354 _ _ _ (fun k_ => some k_ ≠ (.slice Ao46 t354.length co46 : Value).ownBlock) (fun _ => False) rfl rfl ?aO ?aR (fun _ _ h => h) (fun _ h => h.elim) ?aF ?aB ?aS ?aL ?_; (case aR => exact mvC_ ((Kd.R_reads' HO_8.out).2.2)); (case aB => exact (bq0_ HB.out)); (case aF => exact (fun k_ hk => Kd.fresh' (Kd.R_lt (mvR_ HO_8.out)) k_ hk)); (case aO => exact (by (with_reducible repeat (first | apply Kd.R_alloc | apply Kd.R_drewN | apply Kd.R_drew)); exact Kd.R_mono HO370.out (fun _ hk => hk.2))); (case aS => exact (below_size (bq0_ HB.out))); (case aL => have := LMc22.out; omega); intro v372 w51 ho hb hg hat; rw [← Ny371.out] at ho; have n0_ := Aside0.mk (Kd.R_after (ok := (fun _ => True)) (mvR_ HO_8.out) hg hat); have n1_ := Aside0.mk (Kd.R_over' (mvR_ HO367.out) (Kd.R_typed (mvR_ HO370.out)) (by decide) hg); have n2_ := Aside0.mk (hb); have n3_ := Aside0.mk ((show Kd.C (Kd.int .u8) w51 Ao46 y360.length y360 from by rw [Ny360.out]; exact Kd.C_take (m := ((ji18) : Int).toNat) ((Kd.R_reads' (Kd.R_after (ok := (fun _ => True)) (mvR_ HO_8.out) hg hat)).2.2) KL47.out)); have n4_ := Aside0.mk (ho); clear HO_8; clear HO367; clear HB; clear HR363; clear HO370; have HO_8 := n0_; have HO367 := n1_; have HB := n2_; have HR363 := n3_; have HO373 := n4_; clear n0_ n1_ n2_ n3_ n4_; clear ho hb hg hat) | ((with_reducible refine gate_builtin (b := .append) (xs := #[.tmp 75, .tmp 77]) rfl ?_); (try (refine gate_guard (by rfl) ?_; dsimp only)); at_builtin; refine Kd.R_append (Kd.int .u8) (w0 := w) w.heap.size rfl (.tmp 75) (.tmp 77) 23 5 (.int .u8 0) 1 rfl Try.underlying23 info5 rfl (by decide) (by omega) v372 y371 a2 [.int .u8 a2] (fun k_ => some k_ ≠ (.slice Ao46 t354.length co46 : Value).ownBlock) (fun _ => False) rfl rfl ?aP (fun _ hk => hk.elim) ?aF ?aO ?aB ?aS ?aL ?_; (case aP => exact rfl); (case aB => exact (bq0_ HB.out)); (case aF => exact (fun k_ hk => Kd.fresh' (Kd.R_lt (mvR_ HO_8.out)) k_ hk)); (case aO => exact (mvR_ HO373.out)); (case aS => exact (below_size (bq0_ HB.out))); (case aL => have := LMc23.out; omega); intro v375 w52 ho hb hg hat; rw [← Ny374.out] at ho; have n0_ := Aside0.mk (Kd.R_after (ok := (fun _ => True)) (mvR_ HO_8.out) hg hat); have n1_ := Aside0.mk (Kd.R_over' (mvR_ HO367.out) (Kd.R_typed (mvR_ HO373.out)) (by decide) hg); have n2_ := Aside0.mk (hb); have n3_ := Aside0.mk ((show Kd.C (Kd.int .u8) w52 Ao46 y360.length y360 from by rw [Ny360.out]; exact Kd.C_take (m := ((ji18) : Int).toNat) ((Kd.R_reads' (Kd.R_after (ok := (fun _ => True)) (mvR_ HO_8.out) hg hat)).2.2) KL47.out)); have n4_ := Aside0.mk (ho); clear HO_8; clear HO367; clear HB; clear HR363; clear HO373; have HO_8 := n0_; have HO367 := n1_; have HB := n2_; have HR363 := n3_; have HO376 := n4_; clear n0_ n1_ n2_ n3_ n4_; clear ho hb hg hat; obtain ⟨Ao53, co53, eo53⟩ := Kd.R_slice HO376.out; subst eo53) | (go_at_call 11; (with_reducible refine (wire_Read.calls _ _ y374 t377 t378 _ ?side1 ?side2 A24.out).mono ?_); (case side1 => exact mvC_ ((Kd.R_reads' HO376.out).2.2)); (case side2 => exact (Kd.R_reads' HO376.out).2.1); rintro e w54 ⟨v379, rfl, ho0, hb⟩; have n0_ := Aside0.mk (Kd.R_below (mvR_ HO_8.out) hb); have n1_ := Aside0.mk (Kd.R_elder' (mvR_ HO367.out) (Kd.R_base ho0) hb); have n2_ := Aside0.mk (Kd.R_below (mvR_ HO376.out) hb); have n3_ := Aside0.mk (Kd.R_lower (Kd.R_new' ho0 (Kd.R_lt (mvR_ HO367.out))) (below_size (bq0_ HB.out))); have n4_ := Aside0.mk (Kd.C_below (by repeat (first | (with_reducible exact HR363.out) | (with_reducible refine Kd.C_alloc ?_ _) | (with_reducible refine Kd.C_drewN ?_ _) | (with_reducible refine Kd.C_drew ?_) | exact HR363.out)) hb); have n5_ := Aside0.mk (below_step (bq0_ HB.out) hb); clear HO_8; clear HO367; clear HO376; clear HR363; clear HB; have HO_8 := n0_; have HO367 := n1_; have HO376 := n2_; have HO380 := n3_; have HR363 := n4_; have HB := n5_; clear n0_ n1_ n2_ n3_ n4_ n5_; (try clear hb); (try clear ho0))); try go_wp2_with (first | (go_at_call 11; (with_reducible refine (wire_Read.calls _ _ y360 t364 t365 _ ?side1 ?side2 A21.out).mono ?_); (case side1 => repeat (first | exact (by repeat (first | (with_reducible exact HR363.out) | (with_reducible refine Kd.C_alloc ?_ _) | (with_reducible refine Kd.C_drewN ?_ _) | (with_reducible refine Kd.C_drew ?_) | exact HR363.out)) | (with_reducible refine Kd.C_alloc ?_ _) | (with_reducible refine Kd.C_drewN ?_ _) | (with_reducible refine Kd.C_drew ?_))); (case side2 => exact HC363.out); rintro e w48 ⟨v366, rfl, ho0, hb⟩; have n0_ := Aside0.mk (Kd.R_below (mvR_ HO_8.out) hb); have n1_ := Aside0.mk (Kd.R_lower ho0 (below_size (bq0_ HB.out))); have n2_ := Aside0.mk (Kd.C_below (by repeat (first | (with_reducible exact HR363.out) | (with_reducible refine Kd.C_alloc ?_ _) | (with_reducible refine Kd.C_drewN ?_ _) | (with_reducible refine Kd.C_drew ?_) | exact HR363.out)) hb); have n3_ := Aside0.mk (below_step (bq0_ HB.out) hb); clear HO_8; clear HR363; clear HB; have HO_8 := n0_; have HO367 := n1_; have HR363 := n2_; have HB := n3_; clear n0_ n1_ n2_ n3_; (try clear hb); (try clear ho0)) | ((with_reducible refine gate_dst (N := 73) rfl ?_); (try (refine gate_guard (by rfl) ?_; dsimp only)); refine Kd.R_lit (Kd.int .u8) _ 5 ?hg (N := 73) ?hd (xs := ([] : List Int)) (inner := []) (ok := fun _ => True) (okp := fun _ => True) ?hr ?hp (fun _ hk => hk) trivial (Below.refl _ _) (Nat.le_refl _) (by simp) ?_; (case hd => rfl); (case hg => rfl); (case hr => first | (go_simp; done) | (go_simp; rfl)); (case hp => exact (Reps.none _ _)); intro v369 w49 ho50 hb hg_ hnew_; clear hg_ hnew_; (first | rw [← Ny368.out] at ho50 | (simp only [Int.reduceToNat] at ho50; rw [← Ny368.out] at ho50)); have n0_ := Aside0.mk (Kd.R_elder' (mvR_ HO_8.out) (Kd.R_base ho50) hb); have n1_ := Aside0.mk (Kd.R_below (mvR_ HO367.out) hb); have n2_ := Aside0.mk (Kd.R_lower (Kd.R_new' ho50 (Kd.R_lt (mvR_ HO_8.out))) (below_size (bq0_ HB.out))); have n3_ := Aside0.mk (Kd.C_below (by repeat (first | (with_reducible exact HR363.out) | (with_reducible refine Kd.C_alloc ?_ _) | (with_reducible refine Kd.C_drewN ?_ _) | (with_reducible refine Kd.C_drew ?_) | exact HR363.out)) hb); have n4_ := Aside0.mk (below_step (bq0_ HB.out) hb); clear HO_8; clear HO367; clear HR363; clear HB; have HO_8 := n0_; have HO367 := n1_; have HO370 := n2_; have HR363 := n3_; have HB := n4_; clear n0_ n1_ n2_ n3_ n4_; clear hb ho50) | ((with_reducible refine gate_builtin (b := .append) (xs := #[.tmp 73, .tmp 74]) rfl ?_); (try (refine gate_guard (by rfl) ?_; dsimp only)); at_builtin; refine Kd.R_append_rows (Kd.int .u8) (w0 := w) w.heap.size rfl (.tmp 73) (.tmp 74) 23 5 (.int .u8 0) 1 rfl Try.underlying23 info5 rfl (by decide) (by omega) v369 y368 t354 _ _ _ (fun k_ => some k_ ≠ (.slice Ao46 t354.length co46 : Value).ownBlock) (fun _ => False) rfl rfl ?aO ?aR (fun _ _ h => h) (fun _ h => h.elim) ?aF ?aB ?aS ?aL ?_; (case aR => exact mvC_ ((Kd.R_reads' HO_8.out).2.2)); (case aB => exact (bq0_ HB.out)); (case aF => exact (fun k_ hk => Kd.fresh' (Kd.R_lt (mvR_ HO_8.out)) k_ hk)); (case aO => exact (by (with_reducible repeat (first | apply Kd.R_alloc | apply Kd.R_drewN | apply Kd.R_drew)); exact Kd.R_mono HO370.out (fun _ hk => hk.2))); (case aS => exact (below_size (bq0_ HB.out))); (case aL => have := LMc22.out; omega); intro v372 w51 ho hb hg hat; rw [← Ny371.out] at ho; have n0_ := Aside0.mk (Kd.R_after (ok := (fun _ => True)) (mvR_ HO_8.out) hg hat); have n1_ := Aside0.mk (Kd.R_over' (mvR_ HO367.out) (Kd.R_typed (mvR_ HO370.out)) (by decide) hg); have n2_ := Aside0.mk (hb); have n3_ := Aside0.mk ((show Kd.C (Kd.int .u8) w51 Ao46 y360.length y360 from by rw [Ny360.out]; exact Kd.C_take (m := ((ji18) : Int).toNat) ((Kd.R_reads' (Kd.R_after (ok := (fun _ => True)) (mvR_ HO_8.out) hg hat)).2.2) KL47.out)); have n4_ := Aside0.mk (ho); clear HO_8; clear HO367; clear HB; clear HR363; clear HO370; have HO_8 := n0_; have HO367 := n1_; have HB := n2_; have HR363 := n3_; have HO373 := n4_; clear n0_ n1_ n2_ n3_ n4_; clear ho hb hg hat) | ((with_reducible refine gate_builtin (b := .append) (xs := #[.tmp 75, .tmp 77]) rfl ?_); (try (refine gate_guard (by rfl) ?_; dsimp only)); at_builtin; refine Kd.R_append (Kd.int .u8) (w0 := w) w.heap.size rfl (.tmp 75) (.tmp 77) 23 5 (.int .u8 0) 1 rfl Try.underlying23 info5 rfl (by decide) (by omega) v372 y371 a2 [.int .u8 a2] (fun k_ => some k_ ≠ (.slice Ao46 t354.length co46 : Value).ownBlock) (fun _ => False) rfl rfl ?aP (fun _ hk => hk.elim) ?aF ?aO ?aB ?aS ?aL ?_; (case aP => exact rfl); (case aB => exact (bq0_ HB.out)); (case aF => exact (fun k_ hk => Kd.fresh' (Kd.R_lt (mvR_ HO_8.out)) k_ hk)); (case aO => exact (mvR_ HO373.out)); (case aS => exact (below_size (bq0_ HB.out))); (case aL => have := LMc23.out; omega); intro v375 w52 ho hb hg hat; rw [← Ny374.out] at ho; have n0_ := Aside0.mk (Kd.R_after (ok := (fun _ => True)) (mvR_ HO_8.out) hg hat); have n1_ := Aside0.mk (Kd.R_over' (mvR_ HO367.out) (Kd.R_typed (mvR_ HO373.out)) (by decide) hg); have n2_ := Aside0.mk (hb); have n3_ := Aside0.mk ((show Kd.C (Kd.int .u8) w52 Ao46 y360.length y360 from by rw [Ny360.out]; exact Kd.C_take (m := ((ji18) : Int).toNat) ((Kd.R_reads' (Kd.R_after (ok := (fun _ => True)) (mvR_ HO_8.out) hg hat)).2.2) KL47.out)); have n4_ := Aside0.mk (ho); clear HO_8; clear HO367; clear HB; clear HR363; clear HO373; have HO_8 := n0_; have HO367 := n1_; have HB := n2_; have HR363 := n3_; have HO376 := n4_; clear n0_ n1_ n2_ n3_ n4_; clear ho hb hg hat; obtain ⟨Ao53, co53, eo53⟩ := Kd.R_slice HO376.out; subst eo53) | (go_at_call 11; (with_reducible refine (wire_Read.calls _ _ y374 t377 t378 _ ?side1 ?side2 A24.out).mono ?_); (case side1 => exact mvC_ ((Kd.R_reads' HO376.out).2.2)); (case side2 => exact (Kd.R_reads' HO376.out).2.1); rintro e w54 ⟨v379, rfl, ho0, hb⟩; have n0_ := Aside0.mk (Kd.R_below (mvR_ HO_8.out) hb); have n1_ := Aside0.mk (Kd.R_elder' (mvR_ HO367.out) (Kd.R_base ho0) hb); have n2_ := Aside0.mk (Kd.R_below (mvR_ HO376.out) hb); have n3_ := Aside0.mk (Kd.R_lower (Kd.R_new' ho0 (Kd.R_lt (mvR_ HO367.out))) (below_size (bq0_ HB.out))); have n4_ := Aside0.mk (Kd.C_below (by repeat (first | (with_reducible exact HR363.out) | (with_reducible refine Kd.C_alloc ?_ _) | (with_reducible refine Kd.C_drewN ?_ _) | (with_reducible refine Kd.C_drew ?_) | exact HR363.out)) hb); have n5_ := Aside0.mk (below_step (bq0_ HB.out) hb); clear HO_8; clear HO367; clear HO376; clear HR363; clear HB; have HO_8 := n0_; have HO367 := n1_; have HO376 := n2_; have HO380 := n3_; have HR363 := n4_; have HB := n5_; clear n0_ n1_ n2_ n3_ n4_ n5_; (try clear hb); (try clear ho0))))
               go_ret
               exact ⟨by first | rfl | (simp [errW_none, errW_some] <;> rfl) | (simp only [← hji18]; first | rfl | (simp [errW_none, errW_some] <;> rfl)) | (simp [*, errW_none, errW_some] <;> rfl), by repeat (first | (with_reducible first | exact HB.out | apply below_alloc | apply pw_below_drewN | apply below_drew1) | exact HB.out)⟩
             ·replace c25 := Bool.eq_false_iff.mpr c25
              subst c25
              have H1 : (some false) = some r := by rw [if_neg (show ¬ (false = true) by decide)] at H; exact H
              clear H
              have H := H1
              clear H1
              obtain rfl := Option.some.inj H
              obtain ⟨Ao55, co55, eo55⟩ := Kd.R_slice HO_8.out
              subst eo55
              have q56 : ((ji18) : Int) ≤ ((t354.length : Int) : Int) := od_
              obtain ⟨i056, hi056, _, hsz56, _⟩ := info_parts info5
              have hroom56 : t354.length ≤ co55 := (Kd.R_reads' HO_8.out).2.1
              have hC56 : Kd.C (Kd.int .u8) _ Ao55 t354.length t354 := (Kd.R_reads' HO_8.out).2.2
              have hcut56 := cut_to (P := Try.prog) 23 5 .i64 Try.underlying23 hi056 Ao55 t354.length co55 (ji18) od_ q56 hroom56
              have hr56 := Kd.C_take (m := ((ji18) : Int).toNat) hC56 (by omega)
              have hy56 : y360.length = ((ji18) : Int).toNat := (by rw [Ny360.out, List.length_take]; omega)
              rw [← Ny360.out] at hr56
              rw [← hy56] at hcut56
              have HR363 := Aside0.mk hr56
              have HC363 := Aside0.mk (show y360.length ≤ co55 from by omega)
              clear hr56 hC56 hroom56 hi056 hsz56
              have KY56 := Aside0.mk hy56
              clear hy56
              have KL56 := Aside0.mk (show ((ji18) : Int).toNat ≤ t354.length from by omega)
              replace q56 := eq_true q56
              go_wp2_with (first | (go_at_call 11; (with_reducible refine (wire_Read.calls _ _ y360 t364 t365 _ ?side1 ?side2 A21.out).mono ?_); (case side1 => repeat (first | exact (by repeat (first | (with_reducible exact HR363.out) | (with_reducible refine Kd.C_alloc ?_ _) | (with_reducible refine Kd.C_drewN ?_ _) | (with_reducible refine Kd.C_drew ?_) | exact HR363.out)) | (with_reducible refine Kd.C_alloc ?_ _) | (with_reducible refine Kd.C_drewN ?_ _) | (with_reducible refine Kd.C_drew ?_))); (case side2 => exact HC363.out); rintro e w57 ⟨v366, rfl, ho0, hb⟩; have n0_ := Aside0.mk (Kd.R_below (mvR_ HO_8.out) hb); have n1_ := Aside0.mk (Kd.R_lower ho0 (below_size (bq0_ HB.out))); have n2_ := Aside0.mk (Kd.C_below (by repeat (first | (with_reducible exact HR363.out) | (with_reducible refine Kd.C_alloc ?_ _) | (with_reducible refine Kd.C_drewN ?_ _) | (with_reducible refine Kd.C_drew ?_) | exact HR363.out)) hb); have n3_ := Aside0.mk (below_step (bq0_ HB.out) hb); clear HO_8; clear HR363; clear HB; have HO_8 := n0_; have HO367 := n1_; have HR363 := n2_; have HB := n3_; clear n0_ n1_ n2_ n3_; (try clear hb); (try clear ho0)) | ((with_reducible refine gate_dst (N := 73) rfl ?_); (try (refine gate_guard (by rfl) ?_; dsimp only)); refine Kd.R_lit (Kd.int .u8) _ 5 ?hg (N := 73) ?hd (xs := ([] : List Int)) (inner := []) (ok := fun _ => True) (okp := fun _ => True) ?hr ?hp (fun _ hk => hk) trivial (Below.refl _ _) (Nat.le_refl _) (by simp) ?_; (case hd => rfl); (case hg => rfl); (case hr => first | (go_simp; done) | (go_simp; rfl)); (case hp => exact (Reps.none _ _)); intro v369 w58 ho59 hb hg_ hnew_; clear hg_ hnew_; (first | rw [← Ny368.out] at ho59 | (simp only [Int.reduceToNat] at ho59; rw [← Ny368.out] at ho59)); have n0_ := Aside0.mk (Kd.R_elder' (mvR_ HO_8.out) (Kd.R_base ho59) hb); have n1_ := Aside0.mk (Kd.R_below (mvR_ HO367.out) hb); have n2_ := Aside0.mk (Kd.R_lower (Kd.R_new' ho59 (Kd.R_lt (mvR_ HO_8.out))) (below_size (bq0_ HB.out))); have n3_ := Aside0.mk (Kd.C_below (by repeat (first | (with_reducible exact HR363.out) | (with_reducible refine Kd.C_alloc ?_ _) | (with_reducible refine Kd.C_drewN ?_ _) | (with_reducible refine Kd.C_drew ?_) | exact HR363.out)) hb); have n4_ := Aside0.mk (below_step (bq0_ HB.out) hb); clear HO_8; clear HO367; clear HR363; clear HB; have HO_8 := n0_; have HO367 := n1_; have HO370 := n2_; have HR363 := n3_; have HB := n4_; clear n0_ n1_ n2_ n3_ n4_; clear hb ho59) | ((with_reducible refine gate_builtin (b := .append) (xs := #[.tmp 73, .tmp 74]) rfl ?_); (try (refine gate_guard (by rfl) ?_; dsimp only)); at_builtin; refine Kd.R_append_rows (Kd.int .u8) (w0 := w) w.heap.size rfl (.tmp 73) (.tmp 74) 23 5 (.int .u8 0) 1 rfl Try.underlying23 info5 rfl (by decide) (by omega) v369 y368 t354 _ _ _ (fun k_ => some k_ ≠ (.slice Ao55 t354.length co55 : Value).ownBlock) (fun _ => False) rfl rfl ?aO ?aR (fun _ _ h => h) (fun _ h => h.elim) ?aF ?aB ?aS ?aL ?_; (case aR => exact mvC_ ((Kd.R_reads' HO_8.out).2.2)); (case aB => exact (bq0_ HB.out)); (case aF => exact (fun k_ hk => Kd.fresh' (Kd.R_lt (mvR_ HO_8.out)) k_ hk)); (case aO => exact (by (with_reducible repeat (first | apply Kd.R_alloc | apply Kd.R_drewN | apply Kd.R_drew)); exact Kd.R_mono HO370.out (fun _ hk => hk.2))); (case aS => exact (below_size (bq0_ HB.out))); (case aL => have := LMc22.out; omega); intro v372 w60 ho hb hg hat; rw [← Ny371.out] at ho; have n0_ := Aside0.mk (Kd.R_after (ok := (fun _ => True)) (mvR_ HO_8.out) hg hat); have n1_ := Aside0.mk (Kd.R_over' (mvR_ HO367.out) (Kd.R_typed (mvR_ HO370.out)) (by decide) hg); have n2_ := Aside0.mk (hb); have n3_ := Aside0.mk ((show Kd.C (Kd.int .u8) w60 Ao55 y360.length y360 from by rw [Ny360.out]; exact Kd.C_take (m := ((ji18) : Int).toNat) ((Kd.R_reads' (Kd.R_after (ok := (fun _ => True)) (mvR_ HO_8.out) hg hat)).2.2) KL56.out)); have n4_ := Aside0.mk (ho); clear HO_8; clear HO367; clear HB; clear HR363; clear HO370; have HO_8 := n0_; have HO367 := n1_; have HB := n2_; have HR363 := n3_; have HO373 := n4_; clear n0_ n1_ n2_ n3_ n4_; clear ho hb hg hat) | ((with_reducible refine gate_builtin (b := .append) (xs := #[.tmp 75, .tmp 77]) rfl ?_); (try (refine gate_guard (by rfl) ?_; dsimp only)); at_builtin; refine Kd.R_append (Kd.int .u8) (w0 := w) w.heap.size rfl (.tmp 75) (.tmp 77) 23 5 (.int .u8 0) 1 rfl Try.underlying23 info5 rfl (by decide) (by omega) v372 y371 a2 [.int .u8 a2] (fun k_ => some k_ ≠ (.slice Ao55 t354.length co55 : Value).ownBlock) (fun _ => False) rfl rfl ?aP (fun _ hk => hk.elim) ?aF ?aO ?aB ?aS ?aL ?_; (case aP => exact rfl); (case aB => exact (bq0_ HB.out)); (case aF => exact (fun k_ hk => Kd.fresh' (Kd.R_lt (mvR_ HO_8.out)) k_ hk)); (case aO => exact (mvR_ HO373.out)); (case aS => exact (below_size (bq0_ HB.out))); (case aL => have := LMc23.out; omega); intro v375 w61 ho hb hg hat; rw [← Ny374.out] at ho; have n0_ := Aside0.mk (Kd.R_after (ok := (fun _ => True)) (mvR_ HO_8.out) hg hat); have n1_ := Aside0.mk (Kd.R_over' (mvR_ HO367.out) (Kd.R_typed (mvR_ HO373.out)) (by decide) hg); have n2_ := Aside0.mk (hb); have n3_ := Aside0.mk ((show Kd.C (Kd.int .u8) w61 Ao55 y360.length y360 from by rw [Ny360.out]; exact Kd.C_take (m := ((ji18) : Int).toNat) ((Kd.R_reads' (Kd.R_after (ok := (fun _ => True)) (mvR_ HO_8.out) hg hat)).2.2) KL56.out)); have n4_ := Aside0.mk (ho); clear HO_8; clear HO367; clear HB; clear HR363; clear HO373; have HO_8 := n0_; have HO367 := n1_; have HB := n2_; have HR363 := n3_; have HO376 := n4_; clear n0_ n1_ n2_ n3_ n4_; clear ho hb hg hat; obtain ⟨Ao62, co62, eo62⟩ := Kd.R_slice HO376.out; subst eo62) | (go_at_call 11; (with_reducible refine (wire_Read.calls _ _ y374 t377 t378 _ ?side1 ?side2 A24.out).mono ?_); (case side1 => exact mvC_ ((Kd.R_reads' HO376.out).2.2)); (case side2 => exact (Kd.R_reads' HO376.out).2.1); rintro e w63 ⟨v379, rfl, ho0, hb⟩; have n0_ := Aside0.mk (Kd.R_below (mvR_ HO_8.out) hb); have n1_ := Aside0.mk (Kd.R_elder' (mvR_ HO367.out) (Kd.R_base ho0) hb); have n2_ := Aside0.mk (Kd.R_below (mvR_ HO376.out) hb); have n3_ := Aside0.mk (Kd.R_lower (Kd.R_new' ho0 (Kd.R_lt (mvR_ HO367.out))) (below_size (bq0_ HB.out))); have n4_ := Aside0.mk (Kd.C_below (by repeat (first | (with_reducible exact HR363.out) | (with_reducible refine Kd.C_alloc ?_ _) | (with_reducible refine Kd.C_drewN ?_ _) | (with_reducible refine Kd.C_drew ?_) | exact HR363.out)) hb); have n5_ := Aside0.mk (below_step (bq0_ HB.out) hb); clear HO_8; clear HO367; clear HO376; clear HR363; clear HB; have HO_8 := n0_; have HO367 := n1_; have HO376 := n2_; have HO380 := n3_; have HR363 := n4_; have HB := n5_; clear n0_ n1_ n2_ n3_ n4_ n5_; (try clear hb); (try clear ho0)))
              repeat (go_quiet (first | (go_at_call 11; (with_reducible refine (wire_Read.calls _ _ y360 t364 t365 _ ?side1 ?side2 A21.out).mono ?_); (case side1 => repeat (first | exact (by repeat (first | (with_reducible exact HR363.out) | (with_reducible refine Kd.C_alloc ?_ _) | (with_reducible refine Kd.C_drewN ?_ _) | (with_reducible refine Kd.C_drew ?_) | exact HR363.out)) | (with_reducible refine Kd.C_alloc ?_ _) | (with_reducible refine Kd.C_drewN ?_ _) | (with_reducible refine Kd.C_drew ?_))); (case side2 => exact HC363.out); rintro e w57 ⟨v366, rfl, ho0, hb⟩; have n0_ := Aside0.mk (Kd.R_below (mvR_ HO_8.out) hb); have n1_ := Aside0.mk (Kd.R_lower ho0 (below_size (bq0_ HB.out))); have n2_ := Aside0.mk (Kd.C_below (by repeat (first | (with_reducible exact HR363.out) | (with_reducible refine Kd.C_alloc ?_ _) | (with_reducible refine Kd.C_drewN ?_ _) | (with_reducible refine Kd.C_drew ?_) | exact HR363.out)) hb); have n3_ := Aside0.mk (below_step (bq0_ HB.out) hb); clear HO_8; clear HR363; clear HB; have HO_8 := n0_; have HO367 := n1_; have HR363 := n2_; have HB := n3_; clear n0_ n1_ n2_ n3_; (try clear hb); (try clear ho0)) | ((with_reducible refine gate_dst (N := 73) rfl ?_); (try (refine gate_guard (by rfl) ?_; dsimp only)); refine Kd.R_lit (Kd.int .u8) _ 5 ?hg (N := 73) ?hd (xs := ([] : List Int)) (inner := []) (ok := fun _ => True) (okp := fun _ => True) ?hr ?hp (fun _ hk => hk) trivial (Below.refl _ _) (Nat.le_refl _) (by simp) ?_; (case hd => rfl); (case hg => rfl); (case hr => first | (go_simp; done) | (go_simp; rfl)); (case hp => exact (Reps.none _ _)); intro v369 w58 ho59 hb hg_ hnew_; clear hg_ hnew_; (first | rw [← Ny368.out] at ho59 | (simp only [Int.reduceToNat] at ho59; rw [← Ny368.out] at ho59)); have n0_ := Aside0.mk (Kd.R_elder' (mvR_ HO_8.out) (Kd.R_base ho59) hb); have n1_ := Aside0.mk (Kd.R_below (mvR_ HO367.out) hb); have n2_ := Aside0.mk (Kd.R_lower (Kd.R_new' ho59 (Kd.R_lt (mvR_ HO_8.out))) (below_size (bq0_ HB.out))); have n3_ := Aside0.mk (Kd.C_below (by repeat (first | (with_reducible exact HR363.out) | (with_reducible refine Kd.C_alloc ?_ _) | (with_reducible refine Kd.C_drewN ?_ _) | (with_reducible refine Kd.C_drew ?_) | exact HR363.out)) hb); have n4_ := Aside0.mk (below_step (bq0_ HB.out) hb); clear HO_8; clear HO367; clear HR363; clear HB; have HO_8 := n0_; have HO367 := n1_; have HO370 := n2_; have HR363 := n3_; have HB := n4_; clear n0_ n1_ n2_ n3_ n4_; clear hb ho59) | ((with_reducible refine gate_builtin (b := .append) (xs := #[.tmp 73, .tmp 74]) rfl ?_); (try (refine gate_guard (by rfl) ?_; dsimp only)); at_builtin; refine Kd.R_append_rows (Kd.int .u8) (w0 := w) w.heap.size rfl (.tmp 73) (.tmp 74) 23 5 (.int .u8 0) 1 rfl Try.underlying23 info5 rfl (by decide) (by omega) v369 y368 t354 _ _ _ (fun k_ => some k_ ≠ (.slice Ao55 t354.length co55 : Value).ownBlock) (fun _ => False) rfl rfl ?aO ?aR (fun _ _ h => h) (fun _ h => h.elim) ?aF ?aB ?aS ?aL ?_; (case aR => exact mvC_ ((Kd.R_reads' HO_8.out).2.2)); (case aB => exact (bq0_ HB.out)); (case aF => exact (fun k_ hk => Kd.fresh' (Kd.R_lt (mvR_ HO_8.out)) k_ hk)); (case aO => exact (by (with_reducible repeat (first | apply Kd.R_alloc | apply Kd.R_drewN | apply Kd.R_drew)); exact Kd.R_mono HO370.out (fun _ hk => hk.2))); (case aS => exact (below_size (bq0_ HB.out))); (case aL => have := LMc22.out; omega); intro v372 w60 ho hb hg hat; rw [← Ny371.out] at ho; have n0_ := Aside0.mk (Kd.R_after (ok := (fun _ => True)) (mvR_ HO_8.out) hg hat); have n1_ := Aside0.mk (Kd.R_over' (mvR_ HO367.out) (Kd.R_typed (mvR_ HO370.out)) (by decide) hg); have n2_ := Aside0.mk (hb); have n3_ := Aside0.mk ((show Kd.C (Kd.int .u8) w60 Ao55 y360.length y360 from by rw [Ny360.out]; exact Kd.C_take (m := ((ji18) : Int).toNat) ((Kd.R_reads' (Kd.R_after (ok := (fun _ => True)) (mvR_ HO_8.out) hg hat)).2.2) KL56.out)); have n4_ := Aside0.mk (ho); clear HO_8; clear HO367; clear HB; clear HR363; clear HO370; have HO_8 := n0_; have HO367 := n1_; have HB := n2_; have HR363 := n3_; have HO373 := n4_; clear n0_ n1_ n2_ n3_ n4_; clear ho hb hg hat) | ((with_reducible refine gate_builtin (b := .append) (xs := #[.tmp 75, .tmp 77]) rfl ?_); (try (refine gate_guard (by rfl) ?_; dsimp only)); at_builtin; refine Kd.R_append (Kd.int .u8) (w0 := w) w.heap.size rfl (.tmp 75) (.tmp 77) 23 5 (.int .u8 0) 1 rfl Try.underlying23 info5 rfl (by decide) (by omega) v372 y371 a2 [.int .u8 a2] (fun k_ => some k_ ≠ (.slice Ao55 t354.length co55 : Value).ownBlock) (fun _ => False) rfl rfl ?aP (fun _ hk => hk.elim) ?aF ?aO ?aB ?aS ?aL ?_; (case aP => exact rfl); (case aB => exact (bq0_ HB.out)); (case aF => exact (fun k_ hk => Kd.fresh' (Kd.R_lt (mvR_ HO_8.out)) k_ hk)); (case aO => exact (mvR_ HO373.out)); (case aS => exact (below_size (bq0_ HB.out))); (case aL => have := LMc23.out; omega); intro v375 w61 ho hb hg hat; rw [← Ny374.out] at ho; have n0_ := Aside0.mk (Kd.R_after (ok := (fun _ => True)) (mvR_ HO_8.out) hg hat); have n1_ := Aside0.mk (Kd.R_over' (mvR_ HO367.out) (Kd.R_typed (mvR_ HO373.out)) (by decide) hg); have n2_ := Aside0.mk (hb); have n3_ := Aside0.mk ((show Kd.C (Kd.int .u8) w61 Ao55 y360.length y360 from by rw [Ny360.out]; exact Kd.C_take (m := ((ji18) : Int).toNat) ((Kd.R_reads' (Kd.R_after (ok := (fun _ => True)) (mvR_ HO_8.out) hg hat)).2.2) KL56.out)); have n4_ := Aside0.mk (ho); clear HO_8; clear HO367; clear HB; clear HR363; clear HO373; have HO_8 := n0_; have HO367 := n1_; have HB := n2_; have HR363 := n3_; have HO376 := n4_; clear n0_ n1_ n2_ n3_ n4_; clear ho hb hg hat; obtain ⟨Ao62, co62, eo62⟩ := Kd.R_slice HO376.out; subst eo62) | (go_at_call 11; (with_reducible refine (wire_Read.calls _ _ y374 t377 t378 _ ?side1 ?side2 A24.out).mono ?_); (case side1 => exact mvC_ ((Kd.R_reads' HO376.out).2.2)); (case side2 => exact (Kd.R_reads' HO376.out).2.1); rintro e w63 ⟨v379, rfl, ho0, hb⟩; have n0_ := Aside0.mk (Kd.R_below (mvR_ HO_8.out) hb); have n1_ := Aside0.mk (Kd.R_elder' (mvR_ HO367.out) (Kd.R_base ho0) hb); have n2_ := Aside0.mk (Kd.R_below (mvR_ HO376.out) hb); have n3_ := Aside0.mk (Kd.R_lower (Kd.R_new' ho0 (Kd.R_lt (mvR_ HO367.out))) (below_size (bq0_ HB.out))); have n4_ := Aside0.mk (Kd.C_below (by repeat (first | (with_reducible exact HR363.out) | (with_reducible refine Kd.C_alloc ?_ _) | (with_reducible refine Kd.C_drewN ?_ _) | (with_reducible refine Kd.C_drew ?_) | exact HR363.out)) hb); have n5_ := Aside0.mk (below_step (bq0_ HB.out) hb); clear HO_8; clear HO367; clear HO376; clear HR363; clear HB; have HO_8 := n0_; have HO367 := n1_; have HO376 := n2_; have HO380 := n3_; have HR363 := n4_; have HB := n5_; clear n0_ n1_ n2_ n3_ n4_ n5_; (try clear hb); (try clear ho0))); try go_wp2_with (first | (go_at_call 11; (with_reducible refine (wire_Read.calls _ _ y360 t364 t365 _ ?side1 ?side2 A21.out).mono ?_); (case side1 => repeat (first | exact (by repeat (first | (with_reducible exact HR363.out) | (with_reducible refine Kd.C_alloc ?_ _) | (with_reducible refine Kd.C_drewN ?_ _) | (with_reducible refine Kd.C_drew ?_) | exact HR363.out)) | (with_reducible refine Kd.C_alloc ?_ _) | (with_reducible refine Kd.C_drewN ?_ _) | (with_reducible refine Kd.C_drew ?_))); (case side2 => exact HC363.out); rintro e w57 ⟨v366, rfl, ho0, hb⟩; have n0_ := Aside0.mk (Kd.R_below (mvR_ HO_8.out) hb); have n1_ := Aside0.mk (Kd.R_lower ho0 (below_size (bq0_ HB.out))); have n2_ := Aside0.mk (Kd.C_below (by repeat (first | (with_reducible exact HR363.out) | (with_reducible refine Kd.C_alloc ?_ _) | (with_reducible refine Kd.C_drewN ?_ _) | (with_reducible refine Kd.C_drew ?_) | exact HR363.out)) hb); have n3_ := Aside0.mk (below_step (bq0_ HB.out) hb); clear HO_8; clear HR363; clear HB; have HO_8 := n0_; have HO367 := n1_; have HR363 := n2_; have HB := n3_; clear n0_ n1_ n2_ n3_; (try clear hb); (try clear ho0)) | ((with_reducible refine gate_dst (N := 73) rfl ?_); (try (refine gate_guard (by rfl) ?_; dsimp only)); refine Kd.R_lit (Kd.int .u8) _ 5 ?hg (N := 73) ?hd (xs := ([] : List Int)) (inner := []) (ok := fun _ => True) (okp := fun _ => True) ?hr ?hp (fun _ hk => hk) trivial (Below.refl _ _) (Nat.le_refl _) (by simp) ?_; (case hd => rfl); (case hg => rfl); (case hr => first | (go_simp; done) | (go_simp; rfl)); (case hp => exact (Reps.none _ _)); intro v369 w58 ho59 hb hg_ hnew_; clear hg_ hnew_; (first | rw [← Ny368.out] at ho59 | (simp only [Int.reduceToNat] at ho59; rw [← Ny368.out] at ho59)); have n0_ := Aside0.mk (Kd.R_elder' (mvR_ HO_8.out) (Kd.R_base ho59) hb); have n1_ := Aside0.mk (Kd.R_below (mvR_ HO367.out) hb); have n2_ := Aside0.mk (Kd.R_lower (Kd.R_new' ho59 (Kd.R_lt (mvR_ HO_8.out))) (below_size (bq0_ HB.out))); have n3_ := Aside0.mk (Kd.C_below (by repeat (first | (with_reducible exact HR363.out) | (with_reducible refine Kd.C_alloc ?_ _) | (with_reducible refine Kd.C_drewN ?_ _) | (with_reducible refine Kd.C_drew ?_) | exact HR363.out)) hb); have n4_ := Aside0.mk (below_step (bq0_ HB.out) hb); clear HO_8; clear HO367; clear HR363; clear HB; have HO_8 := n0_; have HO367 := n1_; have HO370 := n2_; have HR363 := n3_; have HB := n4_; clear n0_ n1_ n2_ n3_ n4_; clear hb ho59) | ((with_reducible refine gate_builtin (b := .append) (xs := #[.tmp 73, .tmp 74]) rfl ?_); (try (refine gate_guard (by rfl) ?_; dsimp only)); at_builtin; refine Kd.R_append_rows (Kd.int .u8) (w0 := w) w.heap.size rfl (.tmp 73) (.tmp 74) 23 5 (.int .u8 0) 1 rfl Try.underlying23 info5 rfl (by decide) (by omega) v369 y368 t354 _ _ _ (fun k_ => some k_ ≠ (.slice Ao55 t354.length co55 : Value).ownBlock) (fun _ => False) rfl rfl ?aO ?aR (fun _ _ h => h) (fun _ h => h.elim) ?aF ?aB ?aS ?aL ?_; (case aR => exact mvC_ ((Kd.R_reads' HO_8.out).2.2)); (case aB => exact (bq0_ HB.out)); (case aF => exact (fun k_ hk => Kd.fresh' (Kd.R_lt (mvR_ HO_8.out)) k_ hk)); (case aO => exact (by (with_reducible repeat (first | apply Kd.R_alloc | apply Kd.R_drewN | apply Kd.R_drew)); exact Kd.R_mono HO370.out (fun _ hk => hk.2))); (case aS => exact (below_size (bq0_ HB.out))); (case aL => have := LMc22.out; omega); intro v372 w60 ho hb hg hat; rw [← Ny371.out] at ho; have n0_ := Aside0.mk (Kd.R_after (ok := (fun _ => True)) (mvR_ HO_8.out) hg hat); have n1_ := Aside0.mk (Kd.R_over' (mvR_ HO367.out) (Kd.R_typed (mvR_ HO370.out)) (by decide) hg); have n2_ := Aside0.mk (hb); have n3_ := Aside0.mk ((show Kd.C (Kd.int .u8) w60 Ao55 y360.length y360 from by rw [Ny360.out]; exact Kd.C_take (m := ((ji18) : Int).toNat) ((Kd.R_reads' (Kd.R_after (ok := (fun _ => True)) (mvR_ HO_8.out) hg hat)).2.2) KL56.out)); have n4_ := Aside0.mk (ho); clear HO_8; clear HO367; clear HB; clear HR363; clear HO370; have HO_8 := n0_; have HO367 := n1_; have HB := n2_; have HR363 := n3_; have HO373 := n4_; clear n0_ n1_ n2_ n3_ n4_; clear ho hb hg hat) | ((with_reducible refine gate_builtin (b := .append) (xs := #[.tmp 75, .tmp 77]) rfl ?_); (try (refine gate_guard (by rfl) ?_; dsimp only)); at_builtin; refine Kd.R_append (Kd.int .u8) (w0 := w) w.heap.size rfl (.tmp 75) (.tmp 77) 23 5 (.int .u8 0) 1 rfl Try.underlying23 info5 rfl (by decide) (by omega) v372 y371 a2 [.int .u8 a2] (fun k_ => some k_ ≠ (.slice Ao55 t354.length co55 : Value).ownBlock) (fun _ => False) rfl rfl ?aP (fun _ hk => hk.elim) ?aF ?aO ?aB ?aS ?aL ?_; (case aP => exact rfl); (case aB => exact (bq0_ HB.out)); (case aF => exact (fun k_ hk => Kd.fresh' (Kd.R_lt (mvR_ HO_8.out)) k_ hk)); (case aO => exact (mvR_ HO373.out)); (case aS => exact (below_size (bq0_ HB.out))); (case aL => have := LMc23.out; omega); intro v375 w61 ho hb hg hat; rw [← Ny374.out] at ho; have n0_ := Aside0.mk (Kd.R_after (ok := (fun _ => True)) (mvR_ HO_8.out) hg hat); have n1_ := Aside0.mk (Kd.R_over' (mvR_ HO367.out) (Kd.R_typed (mvR_ HO373.out)) (by decide) hg); have n2_ := Aside0.mk (hb); have n3_ := Aside0.mk ((show Kd.C (Kd.int .u8) w61 Ao55 y360.length y360 from by rw [Ny360.out]; exact Kd.C_take (m := ((ji18) : Int).toNat) ((Kd.R_reads' (Kd.R_after (ok := (fun _ => True)) (mvR_ HO_8.out) hg hat)).2.2) KL56.out)); have n4_ := Aside0.mk (ho); clear HO_8; clear HO367; clear HB; clear HR363; clear HO373; have HO_8 := n0_; have HO367 := n1_; have HB := n2_; have HR363 := n3_; have HO376 := n4_; clear n0_ n1_ n2_ n3_ n4_; clear ho hb hg hat; obtain ⟨Ao62, co62, eo62⟩ := Kd.R_slice HO376.out; subst eo62) | (go_at_call 11; (with_reducible refine (wire_Read.calls _ _ y374 t377 t378 _ ?side1 ?side2 A24.out).mono ?_); (case side1 => exact mvC_ ((Kd.R_reads' HO376.out).2.2)); (case side2 => exact (Kd.R_reads' HO376.out).2.1); rintro e w63 ⟨v379, rfl, ho0, hb⟩; have n0_ := Aside0.mk (Kd.R_below (mvR_ HO_8.out) hb); have n1_ := Aside0.mk (Kd.R_elder' (mvR_ HO367.out) (Kd.R_base ho0) hb); have n2_ := Aside0.mk (Kd.R_below (mvR_ HO376.out) hb); have n3_ := Aside0.mk (Kd.R_lower (Kd.R_new' ho0 (Kd.R_lt (mvR_ HO367.out))) (below_size (bq0_ HB.out))); have n4_ := Aside0.mk (Kd.C_below (by repeat (first | (with_reducible exact HR363.out) | (with_reducible refine Kd.C_alloc ?_ _) | (with_reducible refine Kd.C_drewN ?_ _) | (with_reducible refine Kd.C_drew ?_) | exact HR363.out)) hb); have n5_ := Aside0.mk (below_step (bq0_ HB.out) hb); clear HO_8; clear HO367; clear HO376; clear HR363; clear HB; have HO_8 := n0_; have HO367 := n1_; have HO376 := n2_; have HO380 := n3_; have HR363 := n4_; have HB := n5_; clear n0_ n1_ n2_ n3_ n4_ n5_; (try clear hb); (try clear ho0))))
              go_ret
              exact ⟨by first | rfl | (simp [errW_none, errW_some] <;> rfl) | (simp only [← hji18]; first | rfl | (simp [errW_none, errW_some] <;> rfl)) | (simp [*, errW_none, errW_some] <;> rfl), by repeat (first | (with_reducible first | exact HB.out | apply below_alloc | apply pw_below_drewN | apply below_drew1) | exact HB.out)⟩
            ·rw [if_neg c23] at H
             exact absurd H (by simp)
           ·rw [if_neg c22] at H
            exact absurd H (by simp)
          ·rw [if_neg c20] at H
           exact absurd H (by simp)
         ·rw [if_neg c19] at H
          exact absurd H (by simp)
 ·replace c6 := Bool.eq_false_iff.mpr c6
  subst c6
  have H1 : (some t352) = some r := by rw [if_neg (show ¬ (false = true) by decide)] at H; exact H
  clear H
  have H := H1
  clear H1
  obtain rfl := Option.some.inj H
  go_enter Try.func5, Try.ntmps5
  go_wp2_with (first | (go_at_call 7; (with_reducible refine (fullerlaw12_awake.calls k  t352 _ A4.out).mono ?_); rintro e w64 ⟨rfl, hb⟩; have n0_ := Aside0.mk (below_step (bq0_ HB.out) hb); clear HB; have HB := n0_; clear n0_; (try clear hb)) | (go_at_call 8; (with_reducible refine (fullerref10_Few.calls k _ _ l0 false _ ?side1 ?side2 A5.out).mono ?_); (case side1 => exact mvC_ ((Kd.C_below HR0.out HB.out))); (case side2 => exact HC0.out); rintro e w' ⟨rfl, ⟨nd, rfl⟩⟩; (try first | exact ⟨rfl, _, World.drewN_drewN _ _ _⟩ | exact ⟨rfl, _, Eq.trans (World.drewN_drewN _ _ _) (congrArg (World.drewN _) (Nat.add_assoc _ _ _))⟩)))
  repeat (go_quiet (first | (go_at_call 7; (with_reducible refine (fullerlaw12_awake.calls k  t352 _ A4.out).mono ?_); rintro e w64 ⟨rfl, hb⟩; have n0_ := Aside0.mk (below_step (bq0_ HB.out) hb); clear HB; have HB := n0_; clear n0_; (try clear hb)) | (go_at_call 8; (with_reducible refine (fullerref10_Few.calls k _ _ l0 false _ ?side1 ?side2 A5.out).mono ?_); (case side1 => exact mvC_ ((Kd.C_below HR0.out HB.out))); (case side2 => exact HC0.out); rintro e w' ⟨rfl, ⟨nd, rfl⟩⟩; (try first | exact ⟨rfl, _, World.drewN_drewN _ _ _⟩ | exact ⟨rfl, _, Eq.trans (World.drewN_drewN _ _ _) (congrArg (World.drewN _) (Nat.add_assoc _ _ _))⟩))); try go_wp2_with (first | (go_at_call 7; (with_reducible refine (fullerlaw12_awake.calls k  t352 _ A4.out).mono ?_); rintro e w64 ⟨rfl, hb⟩; have n0_ := Aside0.mk (below_step (bq0_ HB.out) hb); clear HB; have HB := n0_; clear n0_; (try clear hb)) | (go_at_call 8; (with_reducible refine (fullerref10_Few.calls k _ _ l0 false _ ?side1 ?side2 A5.out).mono ?_); (case side1 => exact mvC_ ((Kd.C_below HR0.out HB.out))); (case side2 => exact HC0.out); rintro e w' ⟨rfl, ⟨nd, rfl⟩⟩; (try first | exact ⟨rfl, _, World.drewN_drewN _ _ _⟩ | exact ⟨rfl, _, Eq.trans (World.drewN_drewN _ _ _) (congrArg (World.drewN _) (Nat.add_assoc _ _ _))⟩))))
  go_ret
  exact ⟨by first | rfl | (simp [errW_none, errW_some] <;> rfl) | (simp [*, errW_none, errW_some] <;> rfl), by repeat (first | (with_reducible first | exact HB.out | apply below_alloc | apply pw_below_drewN | apply below_drew1) | exact HB.out)⟩

/-- THE ONE PURE STATEMENT of fullerlaw12_WireCuts: yours. -/
def fullerlaw12_WireCuts.Pure : Prop := ∀ (l0 : List (S36)) (a1 : Int) (a2 : Int), (l0.length * 56 ≤ 140737488351232 ∧ ∀ x_ ∈ l0, OK36 x_) → ((Lit.int .u16 a1).wf = true) → ((Lit.int .u8 a2).wf = true) → ∃ k, fullerlaw12_WireCuts.f k l0 a1 a2 = some true
theorem fullerlaw12_WireCuts.walk (P : fullerlaw12_WireCuts.Pure) (A0 : Option Addr) (c0 : Nat) (l0 : List (S36)) (a1 : Int) (a2 : Int) (w : World) (hr0 : Kd.C k36 w A0 l0.length l0) (hc0 : l0.length ≤ c0) (hg0 : l0.length * 56 ≤ 140737488351232 ∧ ∀ x_ ∈ l0, OK36 x_) (hg1 : (Lit.int .u16 a1).wf = true) (hg2 : (Lit.int .u8 a2).wf = true) :
  Calls Try.prog 5 #[.slice A0 l0.length c0, .int .u16 a1, .int .u8 a2] w fun e w' => e = .returned (.bool true) ∧ Below w.heap.size w w' := by
 obtain ⟨k, h⟩ := P l0 a1 a2 hg0 hg1 hg2
 refine (fullerlaw12_WireCuts.calls k _ _ l0 a1 a2 true w hr0 hc0 h).mono ?_
 rintro e w' ⟨rfl, hd⟩
 exact ⟨rfl, hd⟩

/-! ### fullerlaw12_WireApart: function 6 (given) -/
/-- A row of one's own begins at its block's head. -/
theorem R_head_ {α : Type} {d : Kd α} {e : Nat} {w : World} {B : Nat} {ok : Nat → Prop} {ad : Addr} {n cap : Nat} {xs : List α} (h : d.R e w B ok (.slice (some ad) n cap) xs) : ∃ g, ad = ⟨g, 0, none⟩ := by
  obtain ⟨_, inner, ho, hr⟩ := h
  rcases ho.2 with ⟨hv, _⟩ | ⟨g, cap', cur, hv, _⟩
  · cases hv
  · injection hv with h1
    injection h1 with h1
    exact ⟨g, h1⟩
/-- What is to be known of two graphs' bytes. -/
def apartFacts (K : Nat) (l0 l1 : List S36) (x y : List Int) (e f : Int) (s : Bool) : Prop :=
  wire_Write.f K l0 = some (x, e) ∧ wire_Write.f K l1 = some (y, f) ∧
    ((¬ e = 0 ∨ e = 0 ∧ ¬ f = 0) ∧ (gchk l0 = false ∨ gchk l0 = true ∧ gchk l1 = false) ∨
      e = 0 ∧ f = 0 ∧ fullerref10_Same.f K l0 l1 = some s ∧ ((strOfNums x).toList == (strOfNums y).toList) = s ∧ 1 < x.length ∧ 0 < l0.length ∧ rd x 0 = (l0.length : Int) ∧ l0.length ≤ 255 ∧ rd x 1 = (rd_T36 l0 0).f0 ∧ 0 ≤ rd x 1 ∧ rd x 1 ≤ 255)
def fullerlaw12_WireApart.Pure : Prop := ∀ (l0 : List S36) (l1 : List S36), (l0.length * 56 ≤ 140737488351232 ∧ ∀ x_ ∈ l0, OK36 x_) → (l1.length * 56 ≤ 140737488351232 ∧ ∀ x_ ∈ l1, OK36 x_) →
  ∃ (K : Nat) (x y : List Int) (e f : Int) (p0 p1 s : Bool), fullerlaw12_awake.f K = some true ∧ fullerref10_Few.f K l0 = some p0 ∧ fullerref10_Few.f K l1 = some p1 ∧ (p0 = false ∨ p0 = true ∧ p1 = false ∨ p0 = true ∧ p1 = true ∧ apartFacts K l0 l1 x y e f s)
set_option maxHeartbeats 8000000 in
set_option maxRecDepth 100000 in
theorem fullerlaw12_WireApart.walk (P : fullerlaw12_WireApart.Pure) (A0 : Option Addr) (c0 : Nat) (l0 : List S36) (A1 : Option Addr) (c1 : Nat) (l1 : List S36) (w : World) (hr0 : Kd.C k36 w A0 l0.length l0) (hc0 : l0.length ≤ c0) (hr1 : Kd.C k36 w A1 l1.length l1) (hc1 : l1.length ≤ c1) (hg0 : l0.length * 56 ≤ 140737488351232 ∧ ∀ x_ ∈ l0, OK36 x_) (hg1 : l1.length * 56 ≤ 140737488351232 ∧ ∀ x_ ∈ l1, OK36 x_) :
    Calls Try.prog 6 #[.slice A0 l0.length c0, .slice A1 l1.length c1] w fun e w' => e = .returned (.bool true) ∧ Below w.heap.size w w' := by
  obtain ⟨K, x, y, e, f, p0, p1, s, h0, h1, h2, h3⟩ := P l0 l1 hg0 hg1
  have HA := Aside0.mk h0
  have HF0 := Aside0.mk h1
  have HF1 := Aside0.mk h2
  have HR0 := Aside0.mk hr0
  have HR1 := Aside0.mk hr1
  have HC0 := Aside0.mk hc0
  have HC1 := Aside0.mk hc1
  clear h0 h1 h2 hr0 hr1 hc0 hc1 hg0 hg1 P
  rcases h3 with rfl | ⟨rfl, rfl⟩ | ⟨rfl, rfl, hw0, hw1, hd⟩
  · go_enter Try.func6, Try.ntmps6
    go_wp2_with (first | (go_at_call 7; (with_reducible refine (fullerlaw12_awake.calls K true _ HA.out).mono ?_); rintro e' w1 ⟨rfl, hb⟩; have HB := Aside0.mk hb; clear hb) | (go_at_call 8; (with_reducible refine (fullerref10_Few.calls K A0 c0 l0 _ _ ?s1 HC0.out HF0.out).mono ?_); (case s1 => exact Kd.C_below HR0.out HB.out); rintro e' w2 ⟨rfl, hd⟩; replace HB := Aside0.mk (below_step HB.out hd.below); clear hd))
    go_ret
    exact ⟨rfl, HB.out⟩
  · go_enter Try.func6, Try.ntmps6
    go_wp2_with fail
    refine (fullerlaw12_awake.calls K true _ HA.out).mono ?_
    rintro e' w1 ⟨rfl, hb⟩
    have HB := Aside0.mk hb
    clear hb
    go_wp2_with fail
    refine (fullerref10_Few.calls K A0 c0 l0 _ _ (Kd.C_below HR0.out HB.out) HC0.out HF0.out).mono ?_
    rintro e' w2 ⟨rfl, hd⟩
    replace HB := Aside0.mk (below_step HB.out hd.below)
    clear hd
    go_wp2_with fail
    refine (fullerref10_Few.calls K A1 c1 l1 _ _ (Kd.C_below HR1.out HB.out) HC1.out HF1.out).mono ?_
    rintro e' w3 ⟨rfl, hd⟩
    replace HB := Aside0.mk (below_step HB.out hd.below)
    clear hd
    go_wp2
    go_ret
    exact ⟨rfl, HB.out⟩
  · have HW0 := Aside0.mk hw0
    have HW1 := Aside0.mk hw1
    clear hw0 hw1
    rcases hd with ⟨he, hg⟩ | ⟨rfl, rfl, hs, hstr, hx1, hl1, hr0, hl2, hr1, hr2, hr3⟩
    · have hee : (e != 0) = true ∨ (e != 0) = false ∧ (f != 0) = true := by
        rcases he with he | ⟨he, hf⟩
        · exact .inl (bne_iff_ne.mpr he)
        · exact .inr ⟨bne_eq_false_iff_eq.mpr he, bne_iff_ne.mpr hf⟩
      have HG := Aside0.mk hg
      clear he hg
      rcases hee with he | ⟨he, hf⟩
      all_goals
        rcases HG.out with hg | ⟨hg, hg2⟩
        · have HG0 := Aside0.mk (show graph_Check.f l0 = some false by rw [graph_Check.f, hg])
          clear hg
          go_enter Try.func6, Try.ntmps6
          go_wp2_with fail
          refine (fullerlaw12_awake.calls K true _ HA.out).mono ?_
          rintro e' w1 ⟨rfl, hb⟩
          have HB := Aside0.mk hb
          clear hb
          go_wp2_with fail
          refine (fullerref10_Few.calls K A0 c0 l0 _ _ (Kd.C_below HR0.out HB.out) HC0.out HF0.out).mono ?_
          rintro e' w2 ⟨rfl, hd⟩
          replace HB := Aside0.mk (below_step HB.out hd.below)
          clear hd
          go_wp2_with fail
          refine (fullerref10_Few.calls K A1 c1 l1 _ _ (Kd.C_below HR1.out HB.out) HC1.out HF1.out).mono ?_
          rintro e' w3 ⟨rfl, hd⟩
          replace HB := Aside0.mk (below_step HB.out hd.below)
          clear hd
          go_wp2_with fail
          refine (wire_Write.calls K A0 c0 l0 x _ _ (Kd.C_below HR0.out HB.out) HC0.out HW0.out).mono ?_
          rintro e' w4 ⟨v, rfl, hR, hb⟩
          obtain ⟨Ax, cx, rfl⟩ := Kd.R_slice hR
          have HX := Aside0.mk hR
          replace HB := Aside0.mk (below_step HB.out hb)
          clear hR hb
          go_wp2_with fail
          refine (wire_Write.calls K A1 c1 l1 y _ _ (Kd.C_below HR1.out HB.out) HC1.out HW1.out).mono ?_
          rintro e' w5 ⟨v, rfl, hR, hb⟩
          obtain ⟨Ay, cy, rfl⟩ := Kd.R_slice hR
          have HY := Aside0.mk hR
          replace HX := Aside0.mk (Kd.R_below HX.out hb)
          replace HB := Aside0.mk (below_step HB.out hb)
          clear hR hb
          go_wp2_with fail
          refine (graph_Check.calls A0 c0 l0 _ _ (Kd.C_below HR0.out HB.out) HC0.out HG0.out).mono ?_
          rintro e' w6 ⟨rfl, hb⟩
          replace HB := Aside0.mk (below_step HB.out hb)
          clear hb
          go_wp2
          go_ret
          exact ⟨rfl, HB.out⟩
        · have HG0 := Aside0.mk (show graph_Check.f l0 = some true by rw [graph_Check.f, hg])
          have HG1 := Aside0.mk (show graph_Check.f l1 = some false by rw [graph_Check.f, hg2])
          clear hg hg2
          go_enter Try.func6, Try.ntmps6
          go_wp2_with fail
          refine (fullerlaw12_awake.calls K true _ HA.out).mono ?_
          rintro e' w1 ⟨rfl, hb⟩
          have HB := Aside0.mk hb
          clear hb
          go_wp2_with fail
          refine (fullerref10_Few.calls K A0 c0 l0 _ _ (Kd.C_below HR0.out HB.out) HC0.out HF0.out).mono ?_
          rintro e' w2 ⟨rfl, hd⟩
          replace HB := Aside0.mk (below_step HB.out hd.below)
          clear hd
          go_wp2_with fail
          refine (fullerref10_Few.calls K A1 c1 l1 _ _ (Kd.C_below HR1.out HB.out) HC1.out HF1.out).mono ?_
          rintro e' w3 ⟨rfl, hd⟩
          replace HB := Aside0.mk (below_step HB.out hd.below)
          clear hd
          go_wp2_with fail
          refine (wire_Write.calls K A0 c0 l0 x _ _ (Kd.C_below HR0.out HB.out) HC0.out HW0.out).mono ?_
          rintro e' w4 ⟨v, rfl, hR, hb⟩
          obtain ⟨Ax, cx, rfl⟩ := Kd.R_slice hR
          have HX := Aside0.mk hR
          replace HB := Aside0.mk (below_step HB.out hb)
          clear hR hb
          go_wp2_with fail
          refine (wire_Write.calls K A1 c1 l1 y _ _ (Kd.C_below HR1.out HB.out) HC1.out HW1.out).mono ?_
          rintro e' w5 ⟨v, rfl, hR, hb⟩
          obtain ⟨Ay, cy, rfl⟩ := Kd.R_slice hR
          have HY := Aside0.mk hR
          replace HX := Aside0.mk (Kd.R_below HX.out hb)
          replace HB := Aside0.mk (below_step HB.out hb)
          clear hR hb
          go_wp2_with fail
          refine (graph_Check.calls A0 c0 l0 _ _ (Kd.C_below HR0.out HB.out) HC0.out HG0.out).mono ?_
          rintro e' w6 ⟨rfl, hb⟩
          replace HB := Aside0.mk (below_step HB.out hb)
          clear hb
          go_wp2_with fail
          refine (graph_Check.calls A1 c1 l1 _ _ (Kd.C_below HR1.out HB.out) HC1.out HG1.out).mono ?_
          rintro e' w7 ⟨rfl, hb⟩
          replace HB := Aside0.mk (below_step HB.out hb)
          clear hb
          go_wp2
          go_ret
          exact ⟨rfl, HB.out⟩
    · have HS := Aside0.mk hs
      have HSTR := Aside0.mk hstr
      have HX0 := Aside0.mk hr0
      have HX1 := Aside0.mk hr1
      have hlx := hx1
      clear hs hstr hr0 hr1
      go_enter Try.func6, Try.ntmps6
      go_wp2_with fail
      refine (fullerlaw12_awake.calls K true _ HA.out).mono ?_
      rintro e' w1 ⟨rfl, hb⟩
      have HB := Aside0.mk hb
      clear hb
      go_wp2_with fail
      refine (fullerref10_Few.calls K A0 c0 l0 _ _ (Kd.C_below HR0.out HB.out) HC0.out HF0.out).mono ?_
      rintro e' w2 ⟨rfl, hd⟩
      replace HB := Aside0.mk (below_step HB.out hd.below)
      clear hd
      go_wp2_with fail
      refine (fullerref10_Few.calls K A1 c1 l1 _ _ (Kd.C_below HR1.out HB.out) HC1.out HF1.out).mono ?_
      rintro e' w3 ⟨rfl, hd⟩
      replace HB := Aside0.mk (below_step HB.out hd.below)
      clear hd
      go_wp2_with fail
      refine (wire_Write.calls K A0 c0 l0 x _ _ (Kd.C_below HR0.out HB.out) HC0.out HW0.out).mono ?_
      rintro e' w4 ⟨v, rfl, hR, hb⟩
      obtain ⟨Ax, cx, rfl⟩ := Kd.R_slice hR
      have HX := Aside0.mk hR
      replace HB := Aside0.mk (below_step HB.out hb)
      clear hR hb
      go_wp2_with fail
      refine (wire_Write.calls K A1 c1 l1 y _ _ (Kd.C_below HR1.out HB.out) HC1.out HW1.out).mono ?_
      rintro e' w5 ⟨v, rfl, hR, hb⟩
      obtain ⟨Ay, cy, rfl⟩ := Kd.R_slice hR
      have HY := Aside0.mk hR
      replace HX := Aside0.mk (Kd.R_below HX.out hb)
      replace HB := Aside0.mk (below_step HB.out hb)
      clear hR hb
      go_wp2_with fail
      obtain ⟨op, hop⟩ : ∃ op, op = rd x 1 := ⟨_, rfl⟩
      obtain ⟨adx, ex, hb0⟩ := Kd.at_int (Kd.R_reads' HX.out).2.2 0 (by omega) (by omega)
      subst ex
      obtain ⟨gx, rfl⟩ := R_head_ HX.out
      obtain ⟨ady, ey, hb1⟩ := Kd.at_int (Kd.R_reads' HX.out).2.2 1 (by omega) (by omega)
      injection ey with ey
      subst ey
      obtain ⟨ad, B1, d1, B2, d2, eA, hn0, hn1, hn2, _, _, _, _⟩ := at_T36 (Kd.C_below HR0.out HB.out) 0 (by omega) (by omega)
      subst eA
      simp only [Int.toNat_natCast, Int.toNat_zero, Int.toNat_one, Nat.zero_mul] at hb0 hb1 hn0 hn1 hn2
      rw [HX0.out] at hb0
      rw [← HX1.out] at hn0
      rw [← hop] at hb1 hn0 hr2 hr3
      have hcx := fun n : Nat => own_string (P := Try.prog) Try.underlying23 Try.underlying5 Try.underlying9 (Kd.own_of_R (Kd.R_drewN HX.out n))
      have hcy := fun n : Nat => own_string (P := Try.prog) Try.underlying23 Try.underlying5 Try.underlying9 (Kd.own_of_R (Kd.R_drewN HY.out n))
      have hstr := HSTR.out
      have b1 : decide (1 < x.length) = true := decide_eq_true hx1
      have b2 : decide (1 < (x.length : Int)) = true := decide_eq_true (by omega)
      have b3 : decide (0 < l0.length) = true := decide_eq_true hl1
      have b4 : decide (0 < (l0.length : Int)) = true := decide_eq_true (by omega)
      have q1 : (0 < x.length) = True := eq_true (by omega)
      have q2 : (1 < x.length) = True := eq_true (by omega)
      have q3 : (0 < l0.length) = True := eq_true (by omega)
      rw [show (⟨gx, 0, none⟩ : Addr).add 0 = ⟨gx, 0, none⟩ from rfl] at hb0
      rw [show (⟨gx, 0, none⟩ : Addr).add 1 = ⟨gx, 1, none⟩ from rfl] at hb1
      rw [Addr.add_zero'] at hn0
      have q4 : ((1 : Int) < (x.length : Int)) = True := eq_true (by omega)
      have q5 : ((0 : Int) < (x.length : Int)) = True := eq_true (by omega)
      have q6 : ((0 : Int) < (l0.length : Int)) = True := eq_true (by omega)
      clear hop hx1 hl1 hlx
      go_quiet ((go_at_call 13; exact Calls.quiet_of ((fullerref10_Same.calls K _ _ l0 _ _ l1 s _ (Kd.C_below HR0.out (pw_below_drewN HB.out _)) HC0.out (Kd.C_below HR1.out (pw_below_drewN HB.out _)) HC1.out HS.out).mono (fun e w ⟨h1, h2⟩ => ⟨h1, h2.out⟩))))
      go_wp2
      go_ret
      exact ⟨rfl, pw_below_drewN HB.out _⟩


end Go.Proofs.Ytchmfdaebohplaa.A
