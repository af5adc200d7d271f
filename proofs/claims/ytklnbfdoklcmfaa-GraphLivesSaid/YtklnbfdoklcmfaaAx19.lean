/- Lean functions that answer as the Go functions do, and the proofs that they do; no conditions. Written by this session's own driver: a scratch copy of the kit's print with the session's additions (wip/xprint). -/
import Derived.Test.YtklnbfdoklcmfaaAx0
import Derived.Test.YtklnbfdoklcmfaaAx2
import Derived.Test.YtklnbfdoklcmfaaAx10
import Derived.Test.YtklnbfdoklcmfaaAx11
import Derived.Test.YtklnbfdoklcmfaaAx12
import Derived.Test.YtklnbfdoklcmfaaAx16
namespace Go.Proofs.Ytklnbfdoklcmfaa.A
open Go.RowKit Go.Proofs.YtklnbfdoklcmfaaW.PrintWords Go.Proofs.YtklnbfdoklcmfaaW.PrintLast Go.Proofs.YtklnbfdoklcmfaaW.PrintMore
attribute [local go_sem] max2_int min2_int max_two min_two max_three min_three max_four min_four   -- for this text's walks alone
set_option linter.unusedVariables false
set_option linter.unusedSimpArgs false

/-! ### fullerlaw10_GraphLives: function 5 -/
mutual
def fullerlaw10_GraphLives.j0 : Nat → List (S35) → Bool → Bool → Option (Bool)
 | 0, _, _, _ => none
 | k + 1, x0, x3, x17 => if x17 = true then (some x3) else ((graph_Live.f x0).bind fun t485 => (fullerlaw10_GraphLives.l0 k x0 x3 t485 0))
def fullerlaw10_GraphLives.l0 : Nat → List (S35) → Bool → List Int → Int → Option (Bool)
 | 0, _, _, _, _ => none
 | k + 1, x0, x3, x4, x5 => if x5 < (x0.length : Int) then ((graph_Uses.f k x0 x5).bind fun t489 => (fullerlaw10_GraphLives.l1 k x0 x3 x4 x5 t489 (x5 == (wrap64 ((x0.length : Int) - 1))) 0)) else (if x3 = true then (if (x4.length : Int) > 0 then (if 0 ≤ (wrap64 ((x4.length : Int) - 1)) then (if (wrap64 ((x4.length : Int) - 1)) < (x4.length : Int) then (some ((rd x4 (wrap64 ((x4.length : Int) - 1))) == (wrap64 ((x0.length : Int) - 1)))) else (none)) else (none)) else (some false)) else (some false))
def fullerlaw10_GraphLives.l1 : Nat → List (S35) → Bool → List Int → Int → List Int → Bool → Int → Option (Bool)
 | 0, _, _, _, _, _, _, _ => none
 | k + 1, x0, x3, x4, x5, x6, x7, x8 => if x8 < (x6.length : Int) then (if x7 = true then (if 0 ≤ x8 then (if (rd x6 x8) ≤ x5 then (some false) else (if x8 > 0 then (if 0 ≤ (wrap64 (x8 - 1)) then (if (wrap64 (x8 - 1)) < (x6.length : Int) then (if (rd x6 x8) < (rd x6 (wrap64 (x8 - 1))) then (some false) else (fullerlaw10_GraphLives.l1 k x0 x3 x4 x5 x6 true (wrap64 (x8 + 1)))) else (none)) else (none)) else (fullerlaw10_GraphLives.l1 k x0 x3 x4 x5 x6 true (wrap64 (x8 + 1))))) else (none)) else (if 0 ≤ x8 then ((fullerref10_In.f k x4 (rd x6 x8)).bind fun t496 => (if (rd x6 x8) ≤ x5 then (some false) else (if x8 > 0 then (if 0 ≤ (wrap64 (x8 - 1)) then (if (wrap64 (x8 - 1)) < (x6.length : Int) then (if (rd x6 x8) < (rd x6 (wrap64 (x8 - 1))) then (some false) else (fullerlaw10_GraphLives.l1 k x0 x3 x4 x5 x6 t496 (wrap64 (x8 + 1)))) else (none)) else (none)) else (fullerlaw10_GraphLives.l1 k x0 x3 x4 x5 x6 t496 (wrap64 (x8 + 1)))))) else (none))) else ((fullerref10_In.f k x4 x5).bind fun t500 => (if (t500 != x7) = true then (some false) else (fullerlaw10_GraphLives.l0 k x0 x3 x4 (wrap64 (x5 + 1)))))
end
def fullerlaw10_GraphLives.f (k : Nat) (l0 : List (S35)) : Option (Bool) := (fullerlaw10_awake.f k).bind fun t482 => ((fullerref10_Few.f k l0).bind fun t483 => (if t483 = true then ((graph_Check.f l0).bind fun t484 => (fullerlaw10_GraphLives.j0 k l0 t482 (!t484))) else (fullerlaw10_GraphLives.j0 k l0 t482 true)))
theorem fullerlaw10_GraphLives.mono_l : ∀ k, (∀ y0 y1 y2, LeO (fullerlaw10_GraphLives.j0 k y0 y1 y2) (fullerlaw10_GraphLives.j0 (k + 1) y0 y1 y2)) ∧ (∀ y0 y1 y2 y3, LeO (fullerlaw10_GraphLives.l0 k y0 y1 y2 y3) (fullerlaw10_GraphLives.l0 (k + 1) y0 y1 y2 y3)) ∧ (∀ y0 y1 y2 y3 y4 y5 y6, LeO (fullerlaw10_GraphLives.l1 k y0 y1 y2 y3 y4 y5 y6) (fullerlaw10_GraphLives.l1 (k + 1) y0 y1 y2 y3 y4 y5 y6))
 | 0 => ⟨fun _ _ _ r h => by simp [fullerlaw10_GraphLives.j0] at h, fun _ _ _ _ r h => by simp [fullerlaw10_GraphLives.l0] at h, fun _ _ _ _ _ _ _ r h => by simp [fullerlaw10_GraphLives.l1] at h⟩
 | k + 1 => by
  obtain ⟨ih0, ih1, ih2⟩ := fullerlaw10_GraphLives.mono_l k
  refine ⟨?_, ?_, ?_⟩
  ·intro y0 y1 y2
   unfold fullerlaw10_GraphLives.j0
   repeat' first
   | (with_reducible exact ih0 _ _ _)
   | (with_reducible exact ih1 _ _ _ _)
   | (with_reducible exact ih2 _ _ _ _ _ _ _)
   | (with_reducible exact fullerlaw10_awake.mono _)
   | (with_reducible exact fullerref10_Few.mono _ _)
   | (with_reducible exact fullerref10_In.mono _ _ _)
   | (with_reducible exact graph_Uses.mono _ _ _)
   | (with_reducible exact LeO.refl _)
   | (with_reducible exact LeO.none _)
   | (with_reducible refine LeO.ite ?_ ?_)
   | (with_reducible refine LeO.bind ?_ (fun _ => ?_))
   | exact ih0 _ _ _
   | exact ih1 _ _ _ _
   | exact ih2 _ _ _ _ _ _ _
   | exact fullerlaw10_awake.mono _
   | exact fullerref10_Few.mono _ _
   | exact fullerref10_In.mono _ _ _
   | exact graph_Uses.mono _ _ _
   | exact LeO.none _
   | refine LeO.ite ?_ ?_
   | refine LeO.bind ?_ (fun _ => ?_)
  ·intro y0 y1 y2 y3
   unfold fullerlaw10_GraphLives.l0
   repeat' first
   | (with_reducible exact ih0 _ _ _)
   | (with_reducible exact ih1 _ _ _ _)
   | (with_reducible exact ih2 _ _ _ _ _ _ _)
   | (with_reducible exact fullerlaw10_awake.mono _)
   | (with_reducible exact fullerref10_Few.mono _ _)
   | (with_reducible exact fullerref10_In.mono _ _ _)
   | (with_reducible exact graph_Uses.mono _ _ _)
   | (with_reducible exact LeO.refl _)
   | (with_reducible exact LeO.none _)
   | (with_reducible refine LeO.ite ?_ ?_)
   | (with_reducible refine LeO.bind ?_ (fun _ => ?_))
   | exact ih0 _ _ _
   | exact ih1 _ _ _ _
   | exact ih2 _ _ _ _ _ _ _
   | exact fullerlaw10_awake.mono _
   | exact fullerref10_Few.mono _ _
   | exact fullerref10_In.mono _ _ _
   | exact graph_Uses.mono _ _ _
   | exact LeO.none _
   | refine LeO.ite ?_ ?_
   | refine LeO.bind ?_ (fun _ => ?_)
  ·intro y0 y1 y2 y3 y4 y5 y6
   unfold fullerlaw10_GraphLives.l1
   repeat' first
   | (with_reducible exact ih0 _ _ _)
   | (with_reducible exact ih1 _ _ _ _)
   | (with_reducible exact ih2 _ _ _ _ _ _ _)
   | (with_reducible exact fullerlaw10_awake.mono _)
   | (with_reducible exact fullerref10_Few.mono _ _)
   | (with_reducible exact fullerref10_In.mono _ _ _)
   | (with_reducible exact graph_Uses.mono _ _ _)
   | (with_reducible exact LeO.refl _)
   | (with_reducible exact LeO.none _)
   | (with_reducible refine LeO.ite ?_ ?_)
   | (with_reducible refine LeO.bind ?_ (fun _ => ?_))
   | exact ih0 _ _ _
   | exact ih1 _ _ _ _
   | exact ih2 _ _ _ _ _ _ _
   | exact fullerlaw10_awake.mono _
   | exact fullerref10_Few.mono _ _
   | exact fullerref10_In.mono _ _ _
   | exact graph_Uses.mono _ _ _
   | exact LeO.none _
   | refine LeO.ite ?_ ?_
   | refine LeO.bind ?_ (fun _ => ?_)
theorem fullerlaw10_GraphLives.mono : ∀ a0 k, LeO (fullerlaw10_GraphLives.f k a0) (fullerlaw10_GraphLives.f (k + 1) a0) := by
 intro a0 k
 obtain ⟨ih0, ih1, ih2⟩ := fullerlaw10_GraphLives.mono_l k
 unfold fullerlaw10_GraphLives.f
 repeat' first
   | (with_reducible exact ih0 _ _ _)
   | (with_reducible exact ih1 _ _ _ _)
   | (with_reducible exact ih2 _ _ _ _ _ _ _)
   | (with_reducible exact fullerlaw10_awake.mono _)
   | (with_reducible exact fullerref10_Few.mono _ _)
   | (with_reducible exact fullerref10_In.mono _ _ _)
   | (with_reducible exact graph_Uses.mono _ _ _)
   | (with_reducible exact LeO.refl _)
   | (with_reducible exact LeO.none _)
   | (with_reducible refine LeO.ite ?_ ?_)
   | (with_reducible refine LeO.bind ?_ (fun _ => ?_))
   | exact ih0 _ _ _
   | exact ih1 _ _ _ _
   | exact ih2 _ _ _ _ _ _ _
   | exact fullerlaw10_awake.mono _
   | exact fullerref10_Few.mono _ _
   | exact fullerref10_In.mono _ _ _
   | exact graph_Uses.mono _ _ _
   | exact LeO.none _
   | refine LeO.ite ?_ ?_
   | refine LeO.bind ?_ (fun _ => ?_)
set_option maxHeartbeats 8000000 in
set_option maxRecDepth 100000 in
theorem fullerlaw10_GraphLives.calls (k : Nat) (A0 : Option Addr) (c0 : Nat) (l0 : List (S35)) (r : Bool) (w : World) (hr0 : Kd.C k35 w A0 l0.length l0) (hc0 : l0.length ≤ c0) (h : fullerlaw10_GraphLives.f k l0 = some r) :
  Calls Try.prog 5 #[.slice A0 l0.length c0] w fun e w' => e = .returned (.bool r) ∧ Below w.heap.size w w' := by
 have HR0 := Aside0.mk hr0
 have HC0 := Aside0.mk hc0
 clear hr0 hc0
 have HB := Aside0.mk (Below.refl w.heap.size w)
 have H : ((fullerlaw10_awake.f k).bind fun t482 => ((fullerref10_Few.f k l0).bind fun t483 => (if t483 = true then ((graph_Check.f l0).bind fun t484 => (fullerlaw10_GraphLives.j0 k l0 t482 (!t484))) else (fullerlaw10_GraphLives.j0 k l0 t482 true)))) = some r := h
 clear h
 replace H := Option.bind_eq_some_iff.mp H
 obtain ⟨t482, A20, H⟩ := H
 replace H : ((fullerref10_Few.f k l0).bind fun t483 => (if t483 = true then ((graph_Check.f l0).bind fun t484 => (fullerlaw10_GraphLives.j0 k l0 t482 (!t484))) else (fullerlaw10_GraphLives.j0 k l0 t482 true))) = some r := H
 have A2 := Aside0.mk A20
 clear A20
 have HC3 := Aside0.mk H
 clear H
 go_enter Try.func5, Try.ntmps5
 go_upto_region 2 with (first | (go_at_call 9; (with_reducible refine (fullerlaw10_awake.calls k  t482 _ A2.out).mono ?_); rintro e w4 ⟨rfl, hb⟩; replace HB := Aside0.mk (below_step (bq0_ HB.out) hb); (try clear hb)))
 repeat (go_quiet (first | (go_at_call 9; (with_reducible refine (fullerlaw10_awake.calls k  t482 _ A2.out).mono ?_); rintro e w4 ⟨rfl, hb⟩; replace HB := Aside0.mk (below_step (bq0_ HB.out) hb); (try clear hb))); go_upto_region 2 with (first | (go_at_call 9; (with_reducible refine (fullerlaw10_awake.calls k  t482 _ A2.out).mono ?_); rintro e w4 ⟨rfl, hb⟩; replace HB := Aside0.mk (below_step (bq0_ HB.out) hb); (try clear hb))))
 (try simp only [Act.put, sA_, sB_, sC_])
 go_cut [17] (fun v17 wc => ∃ (kq : Nat) (x17_2 : Bool), v17 = .bool x17_2 ∧ Aside0 (fullerlaw10_GraphLives.j0 kq l0 t482 x17_2 = some r) ∧ Aside0 (kq ≤ k) ∧ Aside0 (Below w.heap.size w wc))
 case first =>
  have H := HC3.out
  clear HC3
  replace H := Option.bind_eq_some_iff.mp H
  obtain ⟨t483, A50, H⟩ := H
  replace H : (if t483 = true then ((graph_Check.f l0).bind fun t484 => (fullerlaw10_GraphLives.j0 k l0 t482 (!t484))) else (fullerlaw10_GraphLives.j0 k l0 t482 true)) = some r := H
  have A5 := Aside0.mk A50
  clear A50
  by_cases c6 : t483 = true
  ·subst c6
   have H1 : ((graph_Check.f l0).bind fun t484 => (fullerlaw10_GraphLives.j0 k l0 t482 (!t484))) = some r := by rw [if_pos rfl] at H; exact H
   clear H
   have H := H1
   clear H1
   replace H := Option.bind_eq_some_iff.mp H
   obtain ⟨t484, A70, H⟩ := H
   replace H : (fullerlaw10_GraphLives.j0 k l0 t482 (!t484)) = some r := H
   have A7 := Aside0.mk A70
   clear A70
   have H' := Aside0.mk H
   clear H
   go_wp2_with (first | (go_at_call 10; (with_reducible refine (fullerref10_Few.calls k _ _ l0 true _ ?side1 ?side2 A5.out).mono ?_); (case side1 => exact mvC_ ((Kd.C_below HR0.out HB.out))); (case side2 => exact HC0.out); rintro e w' ⟨rfl, ⟨nd, rfl⟩⟩; (try first | exact ⟨rfl, _, World.drewN_drewN _ _ _⟩ | exact ⟨rfl, _, Eq.trans (World.drewN_drewN _ _ _) (congrArg (World.drewN _) (Nat.add_assoc _ _ _))⟩)) | (go_at_call 13; (with_reducible refine (graph_Check.calls _ _ l0 t484 _ ?side1 ?side2 A7.out).mono ?_); (case side1 => repeat (first | exact (Kd.C_below HR0.out (bq0_ HB.out)) | (with_reducible refine Kd.C_alloc ?_ _) | (with_reducible refine Kd.C_drewN ?_ _) | (with_reducible refine Kd.C_drew ?_))); (case side2 => exact HC0.out); rintro e w8 ⟨rfl, hb⟩; replace HB := Aside0.mk (below_step (bq0_ HB.out) hb); (try clear hb)))
   repeat (go_quiet (first | (go_at_call 10; (with_reducible refine (fullerref10_Few.calls k _ _ l0 true _ ?side1 ?side2 A5.out).mono ?_); (case side1 => exact mvC_ ((Kd.C_below HR0.out HB.out))); (case side2 => exact HC0.out); rintro e w' ⟨rfl, ⟨nd, rfl⟩⟩; (try first | exact ⟨rfl, _, World.drewN_drewN _ _ _⟩ | exact ⟨rfl, _, Eq.trans (World.drewN_drewN _ _ _) (congrArg (World.drewN _) (Nat.add_assoc _ _ _))⟩)) | (go_at_call 13; (with_reducible refine (graph_Check.calls _ _ l0 t484 _ ?side1 ?side2 A7.out).mono ?_); (case side1 => repeat (first | exact (Kd.C_below HR0.out (bq0_ HB.out)) | (with_reducible refine Kd.C_alloc ?_ _) | (with_reducible refine Kd.C_drewN ?_ _) | (with_reducible refine Kd.C_drew ?_))); (case side2 => exact HC0.out); rintro e w8 ⟨rfl, hb⟩; replace HB := Aside0.mk (below_step (bq0_ HB.out) hb); (try clear hb))); try go_wp2_with (first | (go_at_call 10; (with_reducible refine (fullerref10_Few.calls k _ _ l0 true _ ?side1 ?side2 A5.out).mono ?_); (case side1 => exact mvC_ ((Kd.C_below HR0.out HB.out))); (case side2 => exact HC0.out); rintro e w' ⟨rfl, ⟨nd, rfl⟩⟩; (try first | exact ⟨rfl, _, World.drewN_drewN _ _ _⟩ | exact ⟨rfl, _, Eq.trans (World.drewN_drewN _ _ _) (congrArg (World.drewN _) (Nat.add_assoc _ _ _))⟩)) | (go_at_call 13; (with_reducible refine (graph_Check.calls _ _ l0 t484 _ ?side1 ?side2 A7.out).mono ?_); (case side1 => repeat (first | exact (Kd.C_below HR0.out (bq0_ HB.out)) | (with_reducible refine Kd.C_alloc ?_ _) | (with_reducible refine Kd.C_drewN ?_ _) | (with_reducible refine Kd.C_drew ?_))); (case side2 => exact HC0.out); rintro e w8 ⟨rfl, hb⟩; replace HB := Aside0.mk (below_step (bq0_ HB.out) hb); (try clear hb))))
   go_meet
   case rel => exact ⟨_, (!t484), (by first | rfl | (simp; done) | (simp [*]; done)), H', ⟨by first | omega | exact Nat.le_refl _⟩, ⟨bq0_ HB.out⟩⟩
  ·replace c6 := Bool.eq_false_iff.mpr c6
   subst c6
   have H1 : (fullerlaw10_GraphLives.j0 k l0 t482 true) = some r := by rw [if_neg (show ¬ (false = true) by decide)] at H; exact H
   clear H
   have H := H1
   clear H1
   have H' := Aside0.mk H
   clear H
   go_wp2_with (first | (go_at_call 10; (with_reducible refine (fullerref10_Few.calls k _ _ l0 false _ ?side1 ?side2 A5.out).mono ?_); (case side1 => exact mvC_ ((Kd.C_below HR0.out HB.out))); (case side2 => exact HC0.out); rintro e w' ⟨rfl, ⟨nd, rfl⟩⟩; (try first | exact ⟨rfl, _, World.drewN_drewN _ _ _⟩ | exact ⟨rfl, _, Eq.trans (World.drewN_drewN _ _ _) (congrArg (World.drewN _) (Nat.add_assoc _ _ _))⟩)))
   repeat (go_quiet (first | (go_at_call 10; (with_reducible refine (fullerref10_Few.calls k _ _ l0 false _ ?side1 ?side2 A5.out).mono ?_); (case side1 => exact mvC_ ((Kd.C_below HR0.out HB.out))); (case side2 => exact HC0.out); rintro e w' ⟨rfl, ⟨nd, rfl⟩⟩; (try first | exact ⟨rfl, _, World.drewN_drewN _ _ _⟩ | exact ⟨rfl, _, Eq.trans (World.drewN_drewN _ _ _) (congrArg (World.drewN _) (Nat.add_assoc _ _ _))⟩))); try go_wp2_with (first | (go_at_call 10; (with_reducible refine (fullerref10_Few.calls k _ _ l0 false _ ?side1 ?side2 A5.out).mono ?_); (case side1 => exact mvC_ ((Kd.C_below HR0.out HB.out))); (case side2 => exact HC0.out); rintro e w' ⟨rfl, ⟨nd, rfl⟩⟩; (try first | exact ⟨rfl, _, World.drewN_drewN _ _ _⟩ | exact ⟨rfl, _, Eq.trans (World.drewN_drewN _ _ _) (congrArg (World.drewN _) (Nat.add_assoc _ _ _))⟩))))
   go_meet
   case rel => exact ⟨_, (true), (by first | rfl | (simp; done) | (simp [*]; done)), H', ⟨by first | omega | exact Nat.le_refl _⟩, ⟨bq0_ HB.out⟩⟩
 case rest =>
  clear HC3
  try clear p2
  try clear c5
  try clear c6
  obtain ⟨kq, x17_2, rfl, HA, HJ2, HB⟩ := hcut
  cases kq with
  | zero => exact absurd HA.out (by simp [fullerlaw10_GraphLives.j0])
  | succ kj2 =>
   have H := HA.out
   clear HA
   simp only [fullerlaw10_GraphLives.j0] at H
   by_cases c9 : x17_2 = true
   ·subst c9
    have H1 : (some t482) = some r := by rw [if_pos rfl] at H; exact H
    clear H
    have H := H1
    clear H1
    obtain rfl := Option.some.inj H
    go_wp2
    repeat (go_quiet (fail); try go_wp2)
    go_ret
    exact ⟨by first | rfl | (simp <;> rfl) | (simp [*] <;> rfl), bq0_ HB.out⟩
   ·replace c9 := Bool.eq_false_iff.mpr c9
    subst c9
    have H1 : ((graph_Live.f l0).bind fun t485 => (fullerlaw10_GraphLives.l0 kj2 l0 t482 t485 0)) = some r := by rw [if_neg (show ¬ (false = true) by decide)] at H; exact H
    clear H
    have H := H1
    clear H1
    replace H := Option.bind_eq_some_iff.mp H
    obtain ⟨t485, A100, H⟩ := H
    replace H : (fullerlaw10_GraphLives.l0 kj2 l0 t482 t485 0) = some r := H
    have A10 := Aside0.mk A100
    clear A100
    have H' := Aside0.mk H
    clear H
    go_wp2_with (first | (go_at_call 22; (with_reducible refine (graph_Live.calls _ _ l0 t485 _ ?side1 ?side2 A10.out).mono ?_); (case side1 => exact mvC_ ((Kd.C_below HR0.out HB.out))); (case side2 => exact HC0.out); rintro e w11 ⟨v486, rfl, ho0, hb⟩; have HO487 := Aside0.mk (Kd.R_lower ho0 (below_size (bq0_ HB.out))); replace HB := Aside0.mk (below_step (bq0_ HB.out) hb); (try clear hb); (try clear ho0)))
    repeat (go_quiet (first | (go_at_call 22; (with_reducible refine (graph_Live.calls _ _ l0 t485 _ ?side1 ?side2 A10.out).mono ?_); (case side1 => exact mvC_ ((Kd.C_below HR0.out HB.out))); (case side2 => exact HC0.out); rintro e w11 ⟨v486, rfl, ho0, hb⟩; have HO487 := Aside0.mk (Kd.R_lower ho0 (below_size (bq0_ HB.out))); replace HB := Aside0.mk (below_step (bq0_ HB.out) hb); (try clear hb); (try clear ho0))); try go_wp2_with (first | (go_at_call 22; (with_reducible refine (graph_Live.calls _ _ l0 t485 _ ?side1 ?side2 A10.out).mono ?_); (case side1 => exact mvC_ ((Kd.C_below HR0.out HB.out))); (case side2 => exact HC0.out); rintro e w11 ⟨v486, rfl, ho0, hb⟩; have HO487 := Aside0.mk (Kd.R_lower ho0 (below_size (bq0_ HB.out))); replace HB := Aside0.mk (below_step (bq0_ HB.out) hb); (try clear hb); (try clear ho0))))
    go_loopg [5] kj2 (fun kq v5 w' => ∃ (x5_2 : Int), v5 = .int .i64 x5_2 ∧ Aside0 (fullerlaw10_GraphLives.l0 kq l0 t482 t485 x5_2 = some r) ∧ Aside0 (kq ≤ kj2) ∧ Aside0 (Kd.R (Kd.int .i64) 3 w' w.heap.size (fun _ => True) v486 t485) ∧ Aside0 (Below w.heap.size w w'))
    case atStart => exact ⟨(0), (by first | rfl | (simp; done) | (simp [*]; done)), H', ⟨Nat.le_refl _⟩, ⟨mvR_ HO487.out⟩, ⟨bq0_ HB.out⟩⟩
    case round =>
     clear H'
     try clear p2
     try clear c5
     try clear c6
     try clear c9
     try clear p2
     obtain ⟨x5_2, rfl, HA, HK2, HO_4, HB⟩ := hrel
     cases gk with
     | zero => exact absurd HA.out (by simp [fullerlaw10_GraphLives.l0])
     | succ k2 =>
      have H := HA.out
      clear HA
      simp only [fullerlaw10_GraphLives.l0] at H
      by_cases c12 : x5_2 < (l0.length : Int)
      ·rw [if_pos c12] at H
       have c12b0 : decide (x5_2 < (l0.length : Int)) = true := decide_eq_true c12
       clear c12
       replace H := Option.bind_eq_some_iff.mp H
       obtain ⟨t489, A130, H⟩ := H
       replace H : (fullerlaw10_GraphLives.l1 k2 l0 t482 t485 x5_2 t489 (x5_2 == (wrap64 ((l0.length : Int) - 1))) 0) = some r := H
       have A13 := Aside0.mk A130
       clear A130
       have H' := Aside0.mk H
       clear H
       go_wp2_with (first | (go_at_call 20; (with_reducible refine (graph_Uses.calls k2 _ _ l0 x5_2 t489 _ ?side1 ?side2 A13.out).mono ?_); (case side1 => exact mvC_ ((Kd.C_below HR0.out HB.out))); (case side2 => exact HC0.out); rintro e w14 ⟨v490, rfl, ho0, hb⟩; have HO491 := Aside0.mk (Kd.R_lower (Kd.R_new' ho0 (Kd.R_lt (mvR_ HO_4.out))) (below_size (bq0_ HB.out))); replace HO_4 := Aside0.mk (Kd.R_elder' (mvR_ HO_4.out) (Kd.R_base ho0) hb); replace HB := Aside0.mk (below_step (bq0_ HB.out) hb); (try clear hb); (try clear ho0)))
       repeat (go_quiet (first | (go_at_call 20; (with_reducible refine (graph_Uses.calls k2 _ _ l0 x5_2 t489 _ ?side1 ?side2 A13.out).mono ?_); (case side1 => exact mvC_ ((Kd.C_below HR0.out HB.out))); (case side2 => exact HC0.out); rintro e w14 ⟨v490, rfl, ho0, hb⟩; have HO491 := Aside0.mk (Kd.R_lower (Kd.R_new' ho0 (Kd.R_lt (mvR_ HO_4.out))) (below_size (bq0_ HB.out))); replace HO_4 := Aside0.mk (Kd.R_elder' (mvR_ HO_4.out) (Kd.R_base ho0) hb); replace HB := Aside0.mk (below_step (bq0_ HB.out) hb); (try clear hb); (try clear ho0))); try go_wp2_with (first | (go_at_call 20; (with_reducible refine (graph_Uses.calls k2 _ _ l0 x5_2 t489 _ ?side1 ?side2 A13.out).mono ?_); (case side1 => exact mvC_ ((Kd.C_below HR0.out HB.out))); (case side2 => exact HC0.out); rintro e w14 ⟨v490, rfl, ho0, hb⟩; have HO491 := Aside0.mk (Kd.R_lower (Kd.R_new' ho0 (Kd.R_lt (mvR_ HO_4.out))) (below_size (bq0_ HB.out))); replace HO_4 := Aside0.mk (Kd.R_elder' (mvR_ HO_4.out) (Kd.R_base ho0) hb); replace HB := Aside0.mk (below_step (bq0_ HB.out) hb); (try clear hb); (try clear ho0))))
       go_loopg [7, 8] k2 (fun kq v7 v8 w' => ∃ (x7_3 : Bool) (x8_3 : Int), v7 = .bool x7_3 ∧ v8 = .int .i64 x8_3 ∧ Aside0 (fullerlaw10_GraphLives.l1 kq l0 t482 t485 x5_2 t489 x7_3 x8_3 = some r) ∧ Aside0 (kq ≤ k2) ∧ Aside0 (Kd.R (Kd.int .i64) 3 w' w.heap.size (fun k_ => some k_ ≠ (v490 : Value).ownBlock) v486 t485) ∧ Aside0 (Kd.R (Kd.int .i64) 3 w' w.heap.size (fun k_ => some k_ ≠ (v486 : Value).ownBlock) v490 t489) ∧ Aside0 (Below w.heap.size w w'))
       case atStart => exact ⟨((x5_2 == (wrap64 ((l0.length : Int) - 1)))), (0), (by first | rfl | (simp; done) | (simp [*]; done)), (by first | rfl | (simp; done) | (simp [*]; done)), H', ⟨Nat.le_refl _⟩, ⟨by (with_reducible repeat (first | apply Kd.R_alloc | apply Kd.R_drewN | apply Kd.R_drew)); exact Kd.R_mono HO_4.out (fun _ hk => hk.2)⟩, ⟨by (with_reducible repeat (first | apply Kd.R_alloc | apply Kd.R_drewN | apply Kd.R_drew)); exact Kd.R_mono HO491.out (fun _ hk => hk.2)⟩, ⟨bq0_ HB.out⟩⟩
       case round =>
        clear H'
        try clear c1
        try clear p2
        try clear c5
        try clear c6
        try clear p6
        try clear c9
        try clear c12
        try clear c12b0
        try clear p2
        obtain ⟨x7_3, x8_3, rfl, rfl, HA, HK3, HO_4, HO_6, HB⟩ := hrel
        cases gk with
        | zero => exact absurd HA.out (by simp [fullerlaw10_GraphLives.l1])
        | succ k3 =>
         have H := HA.out
         clear HA
         simp only [fullerlaw10_GraphLives.l1] at H
         by_cases c15 : x8_3 < (t489.length : Int)
         ·rw [if_pos c15] at H
          have c15b0 : decide (x8_3 < (t489.length : Int)) = true := decide_eq_true c15
          clear c15
          by_cases c16 : x7_3 = true
          ·subst c16
           have H1 : (if 0 ≤ x8_3 then (if (rd t489 x8_3) ≤ x5_2 then (some false) else (if x8_3 > 0 then (if 0 ≤ (wrap64 (x8_3 - 1)) then (if (wrap64 (x8_3 - 1)) < (t489.length : Int) then (if (rd t489 x8_3) < (rd t489 (wrap64 (x8_3 - 1))) then (some false) else (fullerlaw10_GraphLives.l1 k3 l0 t482 t485 x5_2 t489 true (wrap64 (x8_3 + 1)))) else (none)) else (none)) else (fullerlaw10_GraphLives.l1 k3 l0 t482 t485 x5_2 t489 true (wrap64 (x8_3 + 1))))) else (none)) = some r := by rw [if_pos rfl] at H; exact H
           clear H
           have H := H1
           clear H1
           by_cases c17 : 0 ≤ x8_3
           ·rw [if_pos c17] at H
            have c17b0 : decide (0 ≤ x8_3) = true := decide_eq_true c17
            clear c17
            by_cases c18 : (rd t489 x8_3) ≤ x5_2
            ·rw [if_pos c18] at H
             have c18b0 : decide ((rd t489 x8_3) ≤ x5_2) = true := decide_eq_true c18
             clear c18
             obtain rfl := Option.some.inj H
             obtain ⟨Ao19, co19, eo19⟩ := Kd.R_slice HO_6.out
             subst eo19
             have p492 : 0 ≤ (x8_3 : Int) := od_
             have q492 : x8_3 < (t489.length : Int) := od_
             obtain ⟨ad492, e492, hx492_0⟩ := Kd.at_int (Kd.R_reads' HO_6.out).2.2 x8_3 p492 q492
             cases e492
             replace p492 := eq_true p492
             replace q492 := eq_true q492
             go_wp2
             repeat (go_quiet (fail); try go_wp2)
             go_ret
             exact ⟨by first | rfl | (simp <;> rfl) | (simp [*] <;> rfl), bq0_ HB.out⟩
            ·rw [if_neg c18] at H
             have c18b0 : decide ((rd t489 x8_3) ≤ x5_2) = false := decide_eq_false c18
             clear c18
             by_cases c20 : x8_3 > 0
             ·rw [if_pos c20] at H
              have c20b0 : decide (0 < x8_3) = true := decide_eq_true c20
              clear c20
              obtain ⟨ji21, hji21⟩ : ∃ j_ : Int, (wrap64 (x8_3 - 1)) = j_ := ⟨_, rfl⟩
              replace H : (if 0 ≤ (ji21) then (if (ji21) < (t489.length : Int) then (if (rd t489 x8_3) < (rd t489 (ji21)) then (some false) else (fullerlaw10_GraphLives.l1 k3 l0 t482 t485 x5_2 t489 true (wrap64 (x8_3 + 1)))) else (none)) else (none)) = some r := by first | (rw [hji21] at H; exact H) | (simp only [hji21] at H ⊢; exact H)
              have hji21w : (IntKind.i64.wrap (x8_3 - 1)) = ji21 := (i64_w _).trans hji21
              by_cases c22 : 0 ≤ (ji21)
              ·rw [if_pos c22] at H
               have c22b0 : decide (0 ≤ (ji21)) = true := decide_eq_true c22
               clear c22
               by_cases c23 : (ji21) < (t489.length : Int)
               ·rw [if_pos c23] at H
                have c23b0 : decide ((ji21) < (t489.length : Int)) = true := decide_eq_true c23
                clear c23
                by_cases c24 : (rd t489 x8_3) < (rd t489 (ji21))
                ·rw [if_pos c24] at H
                 have c24b0 : decide ((rd t489 x8_3) < (rd t489 (ji21))) = true := decide_eq_true c24
                 clear c24
                 obtain rfl := Option.some.inj H
                 obtain ⟨Ao25, co25, eo25⟩ := Kd.R_slice HO_6.out
                 subst eo25
                 have p492 : 0 ≤ (x8_3 : Int) := od_
                 have q492 : x8_3 < (t489.length : Int) := od_
                 obtain ⟨ad492, e492, hx492_0⟩ := Kd.at_int (Kd.R_reads' HO_6.out).2.2 x8_3 p492 q492
                 cases e492
                 replace p492 := eq_true p492
                 replace q492 := eq_true q492
                 have p493 : 0 ≤ (x8_3 : Int) := od_
                 have q493 : x8_3 < (t489.length : Int) := od_
                 obtain ⟨ad493, e493, hx493_0⟩ := Kd.at_int (Kd.R_reads' HO_6.out).2.2 x8_3 p493 q493
                 obtain rfl : ad492 = ad493 := (by injection e493)
                 replace p493 := eq_true p493
                 replace q493 := eq_true q493
                 have p494 : 0 ≤ ((ji21) : Int) := od_
                 have q494 : (ji21) < (t489.length : Int) := od_
                 obtain ⟨ad494, e494, hx494_0⟩ := Kd.at_int (Kd.R_reads' HO_6.out).2.2 (ji21) p494 q494
                 obtain rfl : ad492 = ad494 := (by injection e494)
                 replace p494 := eq_true p494
                 replace q494 := eq_true q494
                 go_wp2
                 repeat (go_quiet (fail); try go_wp2)
                 go_ret
                 exact ⟨by first | rfl | (simp [errW_none, errW_some] <;> rfl) | (simp only [← hji21]; first | rfl | (simp [errW_none, errW_some] <;> rfl)) | (simp [*, errW_none, errW_some] <;> rfl), bq0_ HB.out⟩
                ·rw [if_neg c24] at H
                 have c24b0 : decide ((rd t489 x8_3) < (rd t489 (ji21))) = false := decide_eq_false c24
                 clear c24
                 have H' := Aside0.mk H
                 clear H
                 obtain ⟨Ao26, co26, eo26⟩ := Kd.R_slice HO_6.out
                 subst eo26
                 have p492 : 0 ≤ (x8_3 : Int) := od_
                 have q492 : x8_3 < (t489.length : Int) := od_
                 obtain ⟨ad492, e492, hx492_0⟩ := Kd.at_int (Kd.R_reads' HO_6.out).2.2 x8_3 p492 q492
                 cases e492
                 replace p492 := eq_true p492
                 replace q492 := eq_true q492
                 have p493 : 0 ≤ (x8_3 : Int) := od_
                 have q493 : x8_3 < (t489.length : Int) := od_
                 obtain ⟨ad493, e493, hx493_0⟩ := Kd.at_int (Kd.R_reads' HO_6.out).2.2 x8_3 p493 q493
                 obtain rfl : ad492 = ad493 := (by injection e493)
                 replace p493 := eq_true p493
                 replace q493 := eq_true q493
                 have p494 : 0 ≤ ((ji21) : Int) := od_
                 have q494 : (ji21) < (t489.length : Int) := od_
                 obtain ⟨ad494, e494, hx494_0⟩ := Kd.at_int (Kd.R_reads' HO_6.out).2.2 (ji21) p494 q494
                 obtain rfl : ad492 = ad494 := (by injection e494)
                 replace p494 := eq_true p494
                 replace q494 := eq_true q494
                 go_wp2
                 repeat (go_quiet (fail); try go_wp2)
                 go_roundg k3
                 case measure => have := HJ2.out; have := HK2.out; have := HK3.out; omega
                 case rel => exact ⟨(true), (wrap64 (x8_3 + 1)), (by first | rfl | (simp; done) | (simp [*]; done)), (by first | rfl | (simp; done) | (simp [*]; done)), H', ⟨by have := HJ2.out; have := HK2.out; have := HK3.out; omega⟩, ⟨mvR_ HO_4.out⟩, ⟨mvR_ HO_6.out⟩, ⟨bq0_ HB.out⟩⟩
               ·rw [if_neg c23] at H
                exact absurd H (by simp)
              ·rw [if_neg c22] at H
               exact absurd H (by simp)
             ·rw [if_neg c20] at H
              have c20b0 : decide (0 < x8_3) = false := decide_eq_false c20
              clear c20
              have H' := Aside0.mk H
              clear H
              obtain ⟨Ao27, co27, eo27⟩ := Kd.R_slice HO_6.out
              subst eo27
              have p492 : 0 ≤ (x8_3 : Int) := od_
              have q492 : x8_3 < (t489.length : Int) := od_
              obtain ⟨ad492, e492, hx492_0⟩ := Kd.at_int (Kd.R_reads' HO_6.out).2.2 x8_3 p492 q492
              cases e492
              replace p492 := eq_true p492
              replace q492 := eq_true q492
              go_wp2
              repeat (go_quiet (fail); try go_wp2)
              go_roundg k3
              case measure => have := HJ2.out; have := HK2.out; have := HK3.out; omega
              case rel => exact ⟨(true), (wrap64 (x8_3 + 1)), (by first | rfl | (simp; done) | (simp [*]; done)), (by first | rfl | (simp; done) | (simp [*]; done)), H', ⟨by have := HJ2.out; have := HK2.out; have := HK3.out; omega⟩, ⟨mvR_ HO_4.out⟩, ⟨mvR_ HO_6.out⟩, ⟨bq0_ HB.out⟩⟩
           ·rw [if_neg c17] at H
            exact absurd H (by simp)
          ·replace c16 := Bool.eq_false_iff.mpr c16
           subst c16
           have H1 : (if 0 ≤ x8_3 then ((fullerref10_In.f k3 t485 (rd t489 x8_3)).bind fun t496 => (if (rd t489 x8_3) ≤ x5_2 then (some false) else (if x8_3 > 0 then (if 0 ≤ (wrap64 (x8_3 - 1)) then (if (wrap64 (x8_3 - 1)) < (t489.length : Int) then (if (rd t489 x8_3) < (rd t489 (wrap64 (x8_3 - 1))) then (some false) else (fullerlaw10_GraphLives.l1 k3 l0 t482 t485 x5_2 t489 t496 (wrap64 (x8_3 + 1)))) else (none)) else (none)) else (fullerlaw10_GraphLives.l1 k3 l0 t482 t485 x5_2 t489 t496 (wrap64 (x8_3 + 1)))))) else (none)) = some r := by rw [if_neg (show ¬ (false = true) by decide)] at H; exact H
           clear H
           have H := H1
           clear H1
           by_cases c28 : 0 ≤ x8_3
           ·rw [if_pos c28] at H
            have c28b0 : decide (0 ≤ x8_3) = true := decide_eq_true c28
            clear c28
            replace H := Option.bind_eq_some_iff.mp H
            obtain ⟨t496, A290, H⟩ := H
            replace H : (if (rd t489 x8_3) ≤ x5_2 then (some false) else (if x8_3 > 0 then (if 0 ≤ (wrap64 (x8_3 - 1)) then (if (wrap64 (x8_3 - 1)) < (t489.length : Int) then (if (rd t489 x8_3) < (rd t489 (wrap64 (x8_3 - 1))) then (some false) else (fullerlaw10_GraphLives.l1 k3 l0 t482 t485 x5_2 t489 t496 (wrap64 (x8_3 + 1)))) else (none)) else (none)) else (fullerlaw10_GraphLives.l1 k3 l0 t482 t485 x5_2 t489 t496 (wrap64 (x8_3 + 1))))) = some r := H
            have A29 := Aside0.mk A290
            clear A290
            by_cases c30 : (rd t489 x8_3) ≤ x5_2
            ·rw [if_pos c30] at H
             have c30b0 : decide ((rd t489 x8_3) ≤ x5_2) = true := decide_eq_true c30
             clear c30
             obtain rfl := Option.some.inj H
             obtain ⟨Ao31, co31, eo31⟩ := Kd.R_slice HO_6.out
             subst eo31
             have p495 : 0 ≤ (x8_3 : Int) := od_
             have q495 : x8_3 < (t489.length : Int) := od_
             obtain ⟨ad495, e495, hx495_0⟩ := Kd.at_int (Kd.R_reads' HO_6.out).2.2 x8_3 p495 q495
             cases e495
             replace p495 := eq_true p495
             replace q495 := eq_true q495
             obtain ⟨Ao32, co32, eo32⟩ := Kd.R_slice HO_4.out
             subst eo32
             go_wp2_with (first | (go_at_call 24; (with_reducible refine (fullerref10_In.calls k3 _ _ t485 (rd t489 x8_3) t496 _ ?side1 ?side2 A29.out).mono ?_); (case side1 => exact mvC_ ((Kd.R_reads' HO_4.out).2.2)); (case side2 => exact (Kd.R_reads' HO_4.out).2.1); rintro e w' ⟨rfl, ⟨nd, rfl⟩⟩; (try first | exact ⟨rfl, _, World.drewN_drewN _ _ _⟩ | exact ⟨rfl, _, Eq.trans (World.drewN_drewN _ _ _) (congrArg (World.drewN _) (Nat.add_assoc _ _ _))⟩); have p497 : 0 ≤ (x8_3 : Int) := od_; have q497 : x8_3 < (t489.length : Int) := od_; obtain ⟨ad497, e497, hx497_0⟩ := Kd.at_int (Kd.R_reads' HO_6.out).2.2 x8_3 p497 q497; obtain rfl : ad495 = ad497 := (by injection e497); replace p497 := eq_true p497; replace q497 := eq_true q497))
             repeat (go_quiet (first | (go_at_call 24; (with_reducible refine (fullerref10_In.calls k3 _ _ t485 (rd t489 x8_3) t496 _ ?side1 ?side2 A29.out).mono ?_); (case side1 => exact mvC_ ((Kd.R_reads' HO_4.out).2.2)); (case side2 => exact (Kd.R_reads' HO_4.out).2.1); rintro e w' ⟨rfl, ⟨nd, rfl⟩⟩; (try first | exact ⟨rfl, _, World.drewN_drewN _ _ _⟩ | exact ⟨rfl, _, Eq.trans (World.drewN_drewN _ _ _) (congrArg (World.drewN _) (Nat.add_assoc _ _ _))⟩); have p497 : 0 ≤ (x8_3 : Int) := od_; have q497 : x8_3 < (t489.length : Int) := od_; obtain ⟨ad497, e497, hx497_0⟩ := Kd.at_int (Kd.R_reads' HO_6.out).2.2 x8_3 p497 q497; obtain rfl : ad495 = ad497 := (by injection e497); replace p497 := eq_true p497; replace q497 := eq_true q497)); try go_wp2_with (first | (go_at_call 24; (with_reducible refine (fullerref10_In.calls k3 _ _ t485 (rd t489 x8_3) t496 _ ?side1 ?side2 A29.out).mono ?_); (case side1 => exact mvC_ ((Kd.R_reads' HO_4.out).2.2)); (case side2 => exact (Kd.R_reads' HO_4.out).2.1); rintro e w' ⟨rfl, ⟨nd, rfl⟩⟩; (try first | exact ⟨rfl, _, World.drewN_drewN _ _ _⟩ | exact ⟨rfl, _, Eq.trans (World.drewN_drewN _ _ _) (congrArg (World.drewN _) (Nat.add_assoc _ _ _))⟩); have p497 : 0 ≤ (x8_3 : Int) := od_; have q497 : x8_3 < (t489.length : Int) := od_; obtain ⟨ad497, e497, hx497_0⟩ := Kd.at_int (Kd.R_reads' HO_6.out).2.2 x8_3 p497 q497; obtain rfl : ad495 = ad497 := (by injection e497); replace p497 := eq_true p497; replace q497 := eq_true q497)))
             go_ret
             exact ⟨by first | rfl | (simp <;> rfl) | (simp [*] <;> rfl), bq0_ HB.out⟩
            ·rw [if_neg c30] at H
             have c30b0 : decide ((rd t489 x8_3) ≤ x5_2) = false := decide_eq_false c30
             clear c30
             by_cases c33 : x8_3 > 0
             ·rw [if_pos c33] at H
              have c33b0 : decide (0 < x8_3) = true := decide_eq_true c33
              clear c33
              obtain ⟨ji34, hji34⟩ : ∃ j_ : Int, (wrap64 (x8_3 - 1)) = j_ := ⟨_, rfl⟩
              replace H : (if 0 ≤ (ji34) then (if (ji34) < (t489.length : Int) then (if (rd t489 x8_3) < (rd t489 (ji34)) then (some false) else (fullerlaw10_GraphLives.l1 k3 l0 t482 t485 x5_2 t489 t496 (wrap64 (x8_3 + 1)))) else (none)) else (none)) = some r := by first | (rw [hji34] at H; exact H) | (simp only [hji34] at H ⊢; exact H)
              (try rw [hji34] at A29)
              have hji34w : (IntKind.i64.wrap (x8_3 - 1)) = ji34 := (i64_w _).trans hji34
              by_cases c35 : 0 ≤ (ji34)
              ·rw [if_pos c35] at H
               have c35b0 : decide (0 ≤ (ji34)) = true := decide_eq_true c35
               clear c35
               by_cases c36 : (ji34) < (t489.length : Int)
               ·rw [if_pos c36] at H
                have c36b0 : decide ((ji34) < (t489.length : Int)) = true := decide_eq_true c36
                clear c36
                by_cases c37 : (rd t489 x8_3) < (rd t489 (ji34))
                ·rw [if_pos c37] at H
                 have c37b0 : decide ((rd t489 x8_3) < (rd t489 (ji34))) = true := decide_eq_true c37
                 clear c37
                 obtain rfl := Option.some.inj H
                 obtain ⟨Ao38, co38, eo38⟩ := Kd.R_slice HO_6.out
                 subst eo38
                 have p495 : 0 ≤ (x8_3 : Int) := od_
                 have q495 : x8_3 < (t489.length : Int) := od_
                 obtain ⟨ad495, e495, hx495_0⟩ := Kd.at_int (Kd.R_reads' HO_6.out).2.2 x8_3 p495 q495
                 cases e495
                 replace p495 := eq_true p495
                 replace q495 := eq_true q495
                 obtain ⟨Ao39, co39, eo39⟩ := Kd.R_slice HO_4.out
                 subst eo39
                 go_wp2_with (first | (go_at_call 24; (with_reducible refine (fullerref10_In.calls k3 _ _ t485 (rd t489 x8_3) t496 _ ?side1 ?side2 A29.out).mono ?_); (case side1 => exact mvC_ ((Kd.R_reads' HO_4.out).2.2)); (case side2 => exact (Kd.R_reads' HO_4.out).2.1); rintro e w' ⟨rfl, ⟨nd, rfl⟩⟩; (try first | exact ⟨rfl, _, World.drewN_drewN _ _ _⟩ | exact ⟨rfl, _, Eq.trans (World.drewN_drewN _ _ _) (congrArg (World.drewN _) (Nat.add_assoc _ _ _))⟩); have p497 : 0 ≤ (x8_3 : Int) := od_; have q497 : x8_3 < (t489.length : Int) := od_; obtain ⟨ad497, e497, hx497_0⟩ := Kd.at_int (Kd.R_reads' HO_6.out).2.2 x8_3 p497 q497; obtain rfl : ad495 = ad497 := (by injection e497); replace p497 := eq_true p497; replace q497 := eq_true q497; have p498 : 0 ≤ (x8_3 : Int) := od_; have q498 : x8_3 < (t489.length : Int) := od_; obtain ⟨ad498, e498, hx498_0⟩ := Kd.at_int (Kd.R_reads' HO_6.out).2.2 x8_3 p498 q498; obtain rfl : ad495 = ad498 := (by injection e498); replace p498 := eq_true p498; replace q498 := eq_true q498; have p499 : 0 ≤ ((ji34) : Int) := od_; have q499 : (ji34) < (t489.length : Int) := od_; obtain ⟨ad499, e499, hx499_0⟩ := Kd.at_int (Kd.R_reads' HO_6.out).2.2 (ji34) p499 q499; obtain rfl : ad495 = ad499 := (by injection e499); replace p499 := eq_true p499; replace q499 := eq_true q499))
                 repeat (go_quiet (first | (go_at_call 24; (with_reducible refine (fullerref10_In.calls k3 _ _ t485 (rd t489 x8_3) t496 _ ?side1 ?side2 A29.out).mono ?_); (case side1 => exact mvC_ ((Kd.R_reads' HO_4.out).2.2)); (case side2 => exact (Kd.R_reads' HO_4.out).2.1); rintro e w' ⟨rfl, ⟨nd, rfl⟩⟩; (try first | exact ⟨rfl, _, World.drewN_drewN _ _ _⟩ | exact ⟨rfl, _, Eq.trans (World.drewN_drewN _ _ _) (congrArg (World.drewN _) (Nat.add_assoc _ _ _))⟩); have p497 : 0 ≤ (x8_3 : Int) := od_; have q497 : x8_3 < (t489.length : Int) := od_; obtain ⟨ad497, e497, hx497_0⟩ := Kd.at_int (Kd.R_reads' HO_6.out).2.2 x8_3 p497 q497; obtain rfl : ad495 = ad497 := (by injection e497); replace p497 := eq_true p497; replace q497 := eq_true q497; have p498 : 0 ≤ (x8_3 : Int) := od_; have q498 : x8_3 < (t489.length : Int) := od_; obtain ⟨ad498, e498, hx498_0⟩ := Kd.at_int (Kd.R_reads' HO_6.out).2.2 x8_3 p498 q498; obtain rfl : ad495 = ad498 := (by injection e498); replace p498 := eq_true p498; replace q498 := eq_true q498; have p499 : 0 ≤ ((ji34) : Int) := od_; have q499 : (ji34) < (t489.length : Int) := od_; obtain ⟨ad499, e499, hx499_0⟩ := Kd.at_int (Kd.R_reads' HO_6.out).2.2 (ji34) p499 q499; obtain rfl : ad495 = ad499 := (by injection e499); replace p499 := eq_true p499; replace q499 := eq_true q499)); try go_wp2_with (first | (go_at_call 24; (with_reducible refine (fullerref10_In.calls k3 _ _ t485 (rd t489 x8_3) t496 _ ?side1 ?side2 A29.out).mono ?_); (case side1 => exact mvC_ ((Kd.R_reads' HO_4.out).2.2)); (case side2 => exact (Kd.R_reads' HO_4.out).2.1); rintro e w' ⟨rfl, ⟨nd, rfl⟩⟩; (try first | exact ⟨rfl, _, World.drewN_drewN _ _ _⟩ | exact ⟨rfl, _, Eq.trans (World.drewN_drewN _ _ _) (congrArg (World.drewN _) (Nat.add_assoc _ _ _))⟩); have p497 : 0 ≤ (x8_3 : Int) := od_; have q497 : x8_3 < (t489.length : Int) := od_; obtain ⟨ad497, e497, hx497_0⟩ := Kd.at_int (Kd.R_reads' HO_6.out).2.2 x8_3 p497 q497; obtain rfl : ad495 = ad497 := (by injection e497); replace p497 := eq_true p497; replace q497 := eq_true q497; have p498 : 0 ≤ (x8_3 : Int) := od_; have q498 : x8_3 < (t489.length : Int) := od_; obtain ⟨ad498, e498, hx498_0⟩ := Kd.at_int (Kd.R_reads' HO_6.out).2.2 x8_3 p498 q498; obtain rfl : ad495 = ad498 := (by injection e498); replace p498 := eq_true p498; replace q498 := eq_true q498; have p499 : 0 ≤ ((ji34) : Int) := od_; have q499 : (ji34) < (t489.length : Int) := od_; obtain ⟨ad499, e499, hx499_0⟩ := Kd.at_int (Kd.R_reads' HO_6.out).2.2 (ji34) p499 q499; obtain rfl : ad495 = ad499 := (by injection e499); replace p499 := eq_true p499; replace q499 := eq_true q499)))
                 go_ret
                 exact ⟨by first | rfl | (simp [errW_none, errW_some] <;> rfl) | (simp only [← hji34]; first | rfl | (simp [errW_none, errW_some] <;> rfl)) | (simp [*, errW_none, errW_some] <;> rfl), bq0_ HB.out⟩
                ·rw [if_neg c37] at H
                 have c37b0 : decide ((rd t489 x8_3) < (rd t489 (ji34))) = false := decide_eq_false c37
                 clear c37
                 have H' := Aside0.mk H
                 clear H
                 obtain ⟨Ao40, co40, eo40⟩ := Kd.R_slice HO_6.out
                 subst eo40
                 have p495 : 0 ≤ (x8_3 : Int) := od_
                 have q495 : x8_3 < (t489.length : Int) := od_
                 obtain ⟨ad495, e495, hx495_0⟩ := Kd.at_int (Kd.R_reads' HO_6.out).2.2 x8_3 p495 q495
                 cases e495
                 replace p495 := eq_true p495
                 replace q495 := eq_true q495
                 obtain ⟨Ao41, co41, eo41⟩ := Kd.R_slice HO_4.out
                 subst eo41
                 go_wp2_with (first | (go_at_call 24; (with_reducible refine (fullerref10_In.calls k3 _ _ t485 (rd t489 x8_3) t496 _ ?side1 ?side2 A29.out).mono ?_); (case side1 => exact mvC_ ((Kd.R_reads' HO_4.out).2.2)); (case side2 => exact (Kd.R_reads' HO_4.out).2.1); rintro e w' ⟨rfl, ⟨nd, rfl⟩⟩; (try first | exact ⟨rfl, _, World.drewN_drewN _ _ _⟩ | exact ⟨rfl, _, Eq.trans (World.drewN_drewN _ _ _) (congrArg (World.drewN _) (Nat.add_assoc _ _ _))⟩); have p497 : 0 ≤ (x8_3 : Int) := od_; have q497 : x8_3 < (t489.length : Int) := od_; obtain ⟨ad497, e497, hx497_0⟩ := Kd.at_int (Kd.R_reads' HO_6.out).2.2 x8_3 p497 q497; obtain rfl : ad495 = ad497 := (by injection e497); replace p497 := eq_true p497; replace q497 := eq_true q497; have p498 : 0 ≤ (x8_3 : Int) := od_; have q498 : x8_3 < (t489.length : Int) := od_; obtain ⟨ad498, e498, hx498_0⟩ := Kd.at_int (Kd.R_reads' HO_6.out).2.2 x8_3 p498 q498; obtain rfl : ad495 = ad498 := (by injection e498); replace p498 := eq_true p498; replace q498 := eq_true q498; have p499 : 0 ≤ ((ji34) : Int) := od_; have q499 : (ji34) < (t489.length : Int) := od_; obtain ⟨ad499, e499, hx499_0⟩ := Kd.at_int (Kd.R_reads' HO_6.out).2.2 (ji34) p499 q499; obtain rfl : ad495 = ad499 := (by injection e499); replace p499 := eq_true p499; replace q499 := eq_true q499))
                 repeat (go_quiet (first | (go_at_call 24; (with_reducible refine (fullerref10_In.calls k3 _ _ t485 (rd t489 x8_3) t496 _ ?side1 ?side2 A29.out).mono ?_); (case side1 => exact mvC_ ((Kd.R_reads' HO_4.out).2.2)); (case side2 => exact (Kd.R_reads' HO_4.out).2.1); rintro e w' ⟨rfl, ⟨nd, rfl⟩⟩; (try first | exact ⟨rfl, _, World.drewN_drewN _ _ _⟩ | exact ⟨rfl, _, Eq.trans (World.drewN_drewN _ _ _) (congrArg (World.drewN _) (Nat.add_assoc _ _ _))⟩); have p497 : 0 ≤ (x8_3 : Int) := od_; have q497 : x8_3 < (t489.length : Int) := od_; obtain ⟨ad497, e497, hx497_0⟩ := Kd.at_int (Kd.R_reads' HO_6.out).2.2 x8_3 p497 q497; obtain rfl : ad495 = ad497 := (by injection e497); replace p497 := eq_true p497; replace q497 := eq_true q497; have p498 : 0 ≤ (x8_3 : Int) := od_; have q498 : x8_3 < (t489.length : Int) := od_; obtain ⟨ad498, e498, hx498_0⟩ := Kd.at_int (Kd.R_reads' HO_6.out).2.2 x8_3 p498 q498; obtain rfl : ad495 = ad498 := (by injection e498); replace p498 := eq_true p498; replace q498 := eq_true q498; have p499 : 0 ≤ ((ji34) : Int) := od_; have q499 : (ji34) < (t489.length : Int) := od_; obtain ⟨ad499, e499, hx499_0⟩ := Kd.at_int (Kd.R_reads' HO_6.out).2.2 (ji34) p499 q499; obtain rfl : ad495 = ad499 := (by injection e499); replace p499 := eq_true p499; replace q499 := eq_true q499)); try go_wp2_with (first | (go_at_call 24; (with_reducible refine (fullerref10_In.calls k3 _ _ t485 (rd t489 x8_3) t496 _ ?side1 ?side2 A29.out).mono ?_); (case side1 => exact mvC_ ((Kd.R_reads' HO_4.out).2.2)); (case side2 => exact (Kd.R_reads' HO_4.out).2.1); rintro e w' ⟨rfl, ⟨nd, rfl⟩⟩; (try first | exact ⟨rfl, _, World.drewN_drewN _ _ _⟩ | exact ⟨rfl, _, Eq.trans (World.drewN_drewN _ _ _) (congrArg (World.drewN _) (Nat.add_assoc _ _ _))⟩); have p497 : 0 ≤ (x8_3 : Int) := od_; have q497 : x8_3 < (t489.length : Int) := od_; obtain ⟨ad497, e497, hx497_0⟩ := Kd.at_int (Kd.R_reads' HO_6.out).2.2 x8_3 p497 q497; obtain rfl : ad495 = ad497 := (by injection e497); replace p497 := eq_true p497; replace q497 := eq_true q497; have p498 : 0 ≤ (x8_3 : Int) := od_; have q498 : x8_3 < (t489.length : Int) := od_; obtain ⟨ad498, e498, hx498_0⟩ := Kd.at_int (Kd.R_reads' HO_6.out).2.2 x8_3 p498 q498; obtain rfl : ad495 = ad498 := (by injection e498); replace p498 := eq_true p498; replace q498 := eq_true q498; have p499 : 0 ≤ ((ji34) : Int) := od_; have q499 : (ji34) < (t489.length : Int) := od_; obtain ⟨ad499, e499, hx499_0⟩ := Kd.at_int (Kd.R_reads' HO_6.out).2.2 (ji34) p499 q499; obtain rfl : ad495 = ad499 := (by injection e499); replace p499 := eq_true p499; replace q499 := eq_true q499)))
                 go_roundg k3
                 case measure => have := HJ2.out; have := HK2.out; have := HK3.out; omega
                 case rel => exact ⟨(t496), (wrap64 (x8_3 + 1)), (by first | rfl | (simp; done) | (simp [*]; done)), (by first | rfl | (simp; done) | (simp [*]; done)), H', ⟨by have := HJ2.out; have := HK2.out; have := HK3.out; omega⟩, ⟨mvR_ HO_4.out⟩, ⟨mvR_ HO_6.out⟩, ⟨bq0_ HB.out⟩⟩
               ·rw [if_neg c36] at H
                exact absurd H (by simp)
              ·rw [if_neg c35] at H
               exact absurd H (by simp)
             ·rw [if_neg c33] at H
              have c33b0 : decide (0 < x8_3) = false := decide_eq_false c33
              clear c33
              have H' := Aside0.mk H
              clear H
              obtain ⟨Ao42, co42, eo42⟩ := Kd.R_slice HO_6.out
              subst eo42
              have p495 : 0 ≤ (x8_3 : Int) := od_
              have q495 : x8_3 < (t489.length : Int) := od_
              obtain ⟨ad495, e495, hx495_0⟩ := Kd.at_int (Kd.R_reads' HO_6.out).2.2 x8_3 p495 q495
              cases e495
              replace p495 := eq_true p495
              replace q495 := eq_true q495
              obtain ⟨Ao43, co43, eo43⟩ := Kd.R_slice HO_4.out
              subst eo43
              go_wp2_with (first | (go_at_call 24; (with_reducible refine (fullerref10_In.calls k3 _ _ t485 (rd t489 x8_3) t496 _ ?side1 ?side2 A29.out).mono ?_); (case side1 => exact mvC_ ((Kd.R_reads' HO_4.out).2.2)); (case side2 => exact (Kd.R_reads' HO_4.out).2.1); rintro e w' ⟨rfl, ⟨nd, rfl⟩⟩; (try first | exact ⟨rfl, _, World.drewN_drewN _ _ _⟩ | exact ⟨rfl, _, Eq.trans (World.drewN_drewN _ _ _) (congrArg (World.drewN _) (Nat.add_assoc _ _ _))⟩); have p497 : 0 ≤ (x8_3 : Int) := od_; have q497 : x8_3 < (t489.length : Int) := od_; obtain ⟨ad497, e497, hx497_0⟩ := Kd.at_int (Kd.R_reads' HO_6.out).2.2 x8_3 p497 q497; obtain rfl : ad495 = ad497 := (by injection e497); replace p497 := eq_true p497; replace q497 := eq_true q497))
              repeat (go_quiet (first | (go_at_call 24; (with_reducible refine (fullerref10_In.calls k3 _ _ t485 (rd t489 x8_3) t496 _ ?side1 ?side2 A29.out).mono ?_); (case side1 => exact mvC_ ((Kd.R_reads' HO_4.out).2.2)); (case side2 => exact (Kd.R_reads' HO_4.out).2.1); rintro e w' ⟨rfl, ⟨nd, rfl⟩⟩; (try first | exact ⟨rfl, _, World.drewN_drewN _ _ _⟩ | exact ⟨rfl, _, Eq.trans (World.drewN_drewN _ _ _) (congrArg (World.drewN _) (Nat.add_assoc _ _ _))⟩); have p497 : 0 ≤ (x8_3 : Int) := od_; have q497 : x8_3 < (t489.length : Int) := od_; obtain ⟨ad497, e497, hx497_0⟩ := Kd.at_int (Kd.R_reads' HO_6.out).2.2 x8_3 p497 q497; obtain rfl : ad495 = ad497 := (by injection e497); replace p497 := eq_true p497; replace q497 := eq_true q497)); try go_wp2_with (first | (go_at_call 24; (with_reducible refine (fullerref10_In.calls k3 _ _ t485 (rd t489 x8_3) t496 _ ?side1 ?side2 A29.out).mono ?_); (case side1 => exact mvC_ ((Kd.R_reads' HO_4.out).2.2)); (case side2 => exact (Kd.R_reads' HO_4.out).2.1); rintro e w' ⟨rfl, ⟨nd, rfl⟩⟩; (try first | exact ⟨rfl, _, World.drewN_drewN _ _ _⟩ | exact ⟨rfl, _, Eq.trans (World.drewN_drewN _ _ _) (congrArg (World.drewN _) (Nat.add_assoc _ _ _))⟩); have p497 : 0 ≤ (x8_3 : Int) := od_; have q497 : x8_3 < (t489.length : Int) := od_; obtain ⟨ad497, e497, hx497_0⟩ := Kd.at_int (Kd.R_reads' HO_6.out).2.2 x8_3 p497 q497; obtain rfl : ad495 = ad497 := (by injection e497); replace p497 := eq_true p497; replace q497 := eq_true q497)))
              go_roundg k3
              case measure => have := HJ2.out; have := HK2.out; have := HK3.out; omega
              case rel => exact ⟨(t496), (wrap64 (x8_3 + 1)), (by first | rfl | (simp; done) | (simp [*]; done)), (by first | rfl | (simp; done) | (simp [*]; done)), H', ⟨by have := HJ2.out; have := HK2.out; have := HK3.out; omega⟩, ⟨mvR_ HO_4.out⟩, ⟨mvR_ HO_6.out⟩, ⟨bq0_ HB.out⟩⟩
           ·rw [if_neg c28] at H
            exact absurd H (by simp)
         ·rw [if_neg c15] at H
          have c15b0 : decide (x8_3 < (t489.length : Int)) = false := decide_eq_false c15
          clear c15
          replace H := Option.bind_eq_some_iff.mp H
          obtain ⟨t500, A440, H⟩ := H
          replace H : (if (t500 != x7_3) = true then (some false) else (fullerlaw10_GraphLives.l0 k3 l0 t482 t485 (wrap64 (x5_2 + 1)))) = some r := H
          have A44 := Aside0.mk A440
          clear A440
          by_cases c45 : (t500 != x7_3) = true
          ·rw [if_pos c45] at H
           have c45b0 : (t500 != x7_3) = true := c45
           (try (have c45b1 : decide (t500 = x7_3) = false := by simpa using c45))
           (try (have c45b2 : (t500 == x7_3) = false := by simpa using c45))
           (try (have c45b3 : ¬ (t500 = x7_3) := by simpa using c45))
           clear c45
           obtain rfl := Option.some.inj H
           obtain ⟨Ao46, co46, eo46⟩ := Kd.R_slice HO_6.out
           subst eo46
           obtain ⟨Ao47, co47, eo47⟩ := Kd.R_slice HO_4.out
           subst eo47
           go_wp2_with (first | (go_at_call 24; (with_reducible refine (fullerref10_In.calls k3 _ _ t485 x5_2 t500 _ ?side1 ?side2 A44.out).mono ?_); (case side1 => exact mvC_ ((Kd.R_reads' HO_4.out).2.2)); (case side2 => exact (Kd.R_reads' HO_4.out).2.1); rintro e w' ⟨rfl, ⟨nd, rfl⟩⟩; (try first | exact ⟨rfl, _, World.drewN_drewN _ _ _⟩ | exact ⟨rfl, _, Eq.trans (World.drewN_drewN _ _ _) (congrArg (World.drewN _) (Nat.add_assoc _ _ _))⟩)))
           repeat (go_quiet (first | (go_at_call 24; (with_reducible refine (fullerref10_In.calls k3 _ _ t485 x5_2 t500 _ ?side1 ?side2 A44.out).mono ?_); (case side1 => exact mvC_ ((Kd.R_reads' HO_4.out).2.2)); (case side2 => exact (Kd.R_reads' HO_4.out).2.1); rintro e w' ⟨rfl, ⟨nd, rfl⟩⟩; (try first | exact ⟨rfl, _, World.drewN_drewN _ _ _⟩ | exact ⟨rfl, _, Eq.trans (World.drewN_drewN _ _ _) (congrArg (World.drewN _) (Nat.add_assoc _ _ _))⟩))); try go_wp2_with (first | (go_at_call 24; (with_reducible refine (fullerref10_In.calls k3 _ _ t485 x5_2 t500 _ ?side1 ?side2 A44.out).mono ?_); (case side1 => exact mvC_ ((Kd.R_reads' HO_4.out).2.2)); (case side2 => exact (Kd.R_reads' HO_4.out).2.1); rintro e w' ⟨rfl, ⟨nd, rfl⟩⟩; (try first | exact ⟨rfl, _, World.drewN_drewN _ _ _⟩ | exact ⟨rfl, _, Eq.trans (World.drewN_drewN _ _ _) (congrArg (World.drewN _) (Nat.add_assoc _ _ _))⟩))))
           go_ret
           exact ⟨by first | rfl | (simp <;> rfl) | (simp [*] <;> rfl), bq0_ HB.out⟩
          ·rw [if_neg c45] at H
           have c45b0 : (t500 != x7_3) = false := by simpa using c45
           (try (have c45b1 : decide (t500 = x7_3) = true := by simpa using c45))
           (try (have c45b2 : (t500 == x7_3) = true := by simpa using c45))
           clear c45
           have H' := Aside0.mk H
           clear H
           obtain ⟨Ao48, co48, eo48⟩ := Kd.R_slice HO_6.out
           subst eo48
           obtain ⟨Ao49, co49, eo49⟩ := Kd.R_slice HO_4.out
           subst eo49
           go_wp2_with (first | (go_at_call 24; (with_reducible refine (fullerref10_In.calls k3 _ _ t485 x5_2 t500 _ ?side1 ?side2 A44.out).mono ?_); (case side1 => exact mvC_ ((Kd.R_reads' HO_4.out).2.2)); (case side2 => exact (Kd.R_reads' HO_4.out).2.1); rintro e w' ⟨rfl, ⟨nd, rfl⟩⟩; (try first | exact ⟨rfl, _, World.drewN_drewN _ _ _⟩ | exact ⟨rfl, _, Eq.trans (World.drewN_drewN _ _ _) (congrArg (World.drewN _) (Nat.add_assoc _ _ _))⟩)))
           repeat (go_quiet (first | (go_at_call 24; (with_reducible refine (fullerref10_In.calls k3 _ _ t485 x5_2 t500 _ ?side1 ?side2 A44.out).mono ?_); (case side1 => exact mvC_ ((Kd.R_reads' HO_4.out).2.2)); (case side2 => exact (Kd.R_reads' HO_4.out).2.1); rintro e w' ⟨rfl, ⟨nd, rfl⟩⟩; (try first | exact ⟨rfl, _, World.drewN_drewN _ _ _⟩ | exact ⟨rfl, _, Eq.trans (World.drewN_drewN _ _ _) (congrArg (World.drewN _) (Nat.add_assoc _ _ _))⟩))); try go_wp2_with (first | (go_at_call 24; (with_reducible refine (fullerref10_In.calls k3 _ _ t485 x5_2 t500 _ ?side1 ?side2 A44.out).mono ?_); (case side1 => exact mvC_ ((Kd.R_reads' HO_4.out).2.2)); (case side2 => exact (Kd.R_reads' HO_4.out).2.1); rintro e w' ⟨rfl, ⟨nd, rfl⟩⟩; (try first | exact ⟨rfl, _, World.drewN_drewN _ _ _⟩ | exact ⟨rfl, _, Eq.trans (World.drewN_drewN _ _ _) (congrArg (World.drewN _) (Nat.add_assoc _ _ _))⟩))))
           go_roundg k3
           case measure => have := HJ2.out; have := HK2.out; have := HK3.out; omega
           case rel => exact ⟨(wrap64 (x5_2 + 1)), (by first | rfl | (simp; done) | (simp [*]; done)), H', ⟨by have := HJ2.out; have := HK2.out; have := HK3.out; omega⟩, ⟨by (with_reducible repeat (first | apply Kd.R_alloc | apply Kd.R_drewN | apply Kd.R_drew)); exact Kd.R_mono HO_4.out (fun _ hk => trivial)⟩, ⟨bq0_ HB.out⟩⟩
      ·rw [if_neg c12] at H
       have c12b0 : decide (x5_2 < (l0.length : Int)) = false := decide_eq_false c12
       clear c12
       by_cases c50 : t482 = true
       ·subst c50
        have H1 : (if (t485.length : Int) > 0 then (if 0 ≤ (wrap64 ((t485.length : Int) - 1)) then (if (wrap64 ((t485.length : Int) - 1)) < (t485.length : Int) then (some ((rd t485 (wrap64 ((t485.length : Int) - 1))) == (wrap64 ((l0.length : Int) - 1)))) else (none)) else (none)) else (some false)) = some r := by rw [if_pos rfl] at H; exact H
        clear H
        have H := H1
        clear H1
        by_cases c51 : (t485.length : Int) > 0
        ·rw [if_pos c51] at H
         have c51b0 : decide (0 < (t485.length : Int)) = true := decide_eq_true c51
         have c51b1 : decide (0 < t485.length) = true := decide_eq_true (by omega)
         clear c51
         obtain ⟨ji52, hji52⟩ : ∃ j_ : Int, (wrap64 ((t485.length : Int) - 1)) = j_ := ⟨_, rfl⟩
         replace H : (if 0 ≤ (ji52) then (if (ji52) < (t485.length : Int) then (some ((rd t485 (ji52)) == (wrap64 ((l0.length : Int) - 1)))) else (none)) else (none)) = some r := by first | (rw [hji52] at H; exact H) | (simp only [hji52] at H ⊢; exact H)
         have hji52w : (IntKind.i64.wrap ((t485.length : Int) - 1)) = ji52 := (i64_w _).trans hji52
         by_cases c53 : 0 ≤ (ji52)
         ·rw [if_pos c53] at H
          have c53b0 : decide (0 ≤ (ji52)) = true := decide_eq_true c53
          clear c53
          by_cases c54 : (ji52) < (t485.length : Int)
          ·rw [if_pos c54] at H
           have c54b0 : decide ((ji52) < (t485.length : Int)) = true := decide_eq_true c54
           clear c54
           obtain rfl := Option.some.inj H
           obtain ⟨Ao55, co55, eo55⟩ := Kd.R_slice HO_4.out
           subst eo55
           have p488 : 0 ≤ ((ji52) : Int) := od_
           have q488 : (ji52) < (t485.length : Int) := od_
           obtain ⟨ad488, e488, hx488_0⟩ := Kd.at_int (Kd.R_reads' HO_4.out).2.2 (ji52) p488 q488
           cases e488
           replace p488 := eq_true p488
           replace q488 := eq_true q488
           go_wp2
           repeat (go_quiet (fail); try go_wp2)
           go_ret
           exact ⟨by first | rfl | (simp [errW_none, errW_some] <;> rfl) | (simp only [← hji52]; first | rfl | (simp [errW_none, errW_some] <;> rfl)) | (simp [*, errW_none, errW_some] <;> rfl), bq0_ HB.out⟩
          ·rw [if_neg c54] at H
           exact absurd H (by simp)
         ·rw [if_neg c53] at H
          exact absurd H (by simp)
        ·rw [if_neg c51] at H
         have c51b0 : decide (0 < (t485.length : Int)) = false := decide_eq_false c51
         have c51b1 : decide (0 < t485.length) = false := decide_eq_false (by omega)
         clear c51
         obtain rfl := Option.some.inj H
         obtain ⟨Ao56, co56, eo56⟩ := Kd.R_slice HO_4.out
         subst eo56
         go_wp2
         repeat (go_quiet (fail); try go_wp2)
         go_ret
         exact ⟨by first | rfl | (simp <;> rfl) | (simp [*] <;> rfl), bq0_ HB.out⟩
       ·replace c50 := Bool.eq_false_iff.mpr c50
        subst c50
        have H1 : (some false) = some r := by rw [if_neg (show ¬ (false = true) by decide)] at H; exact H
        clear H
        have H := H1
        clear H1
        obtain rfl := Option.some.inj H
        go_wp2
        repeat (go_quiet (fail); try go_wp2)
        go_ret
        exact ⟨by first | rfl | (simp <;> rfl) | (simp [*] <;> rfl), bq0_ HB.out⟩

/-- THE ONE PURE STATEMENT of fullerlaw10_GraphLives: yours. -/
def fullerlaw10_GraphLives.Pure : Prop := ∀ (l0 : List (S35)), (l0.length * 56 ≤ 140737488351232 ∧ ∀ x_ ∈ l0, OK35 x_) → ∃ k, fullerlaw10_GraphLives.f k l0 = some true
theorem fullerlaw10_GraphLives.walk (P : fullerlaw10_GraphLives.Pure) (A0 : Option Addr) (c0 : Nat) (l0 : List (S35)) (w : World) (hr0 : Kd.C k35 w A0 l0.length l0) (hc0 : l0.length ≤ c0) (hg0 : l0.length * 56 ≤ 140737488351232 ∧ ∀ x_ ∈ l0, OK35 x_) :
  Calls Try.prog 5 #[.slice A0 l0.length c0] w fun e w' => e = .returned (.bool true) ∧ Below w.heap.size w w' := by
 obtain ⟨k, h⟩ := P l0 hg0
 refine (fullerlaw10_GraphLives.calls k _ _ l0 true w hr0 hc0 h).mono ?_
 rintro e w' ⟨rfl, hd⟩
 exact ⟨rfl, hd⟩

end Go.Proofs.Ytklnbfdoklcmfaa.A
