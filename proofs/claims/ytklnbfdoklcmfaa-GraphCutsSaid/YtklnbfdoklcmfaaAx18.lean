/- Lean functions that answer as the Go functions do, and the proofs that they do; no conditions. Written by this session's own driver: a scratch copy of the kit's print with the session's additions (wip/xprint). -/
import Derived.Test.YtklnbfdoklcmfaaAx0
import Derived.Test.YtklnbfdoklcmfaaAx2
import Derived.Test.YtklnbfdoklcmfaaAx3
import Derived.Test.YtklnbfdoklcmfaaAx10
import Derived.Test.YtklnbfdoklcmfaaAx11
import Derived.Test.YtklnbfdoklcmfaaAx12
import Derived.Test.YtklnbfdoklcmfaaAx16
namespace Go.Proofs.Ytklnbfdoklcmfaa.A
open Go.RowKit Go.Proofs.YtklnbfdoklcmfaaW.PrintWords Go.Proofs.YtklnbfdoklcmfaaW.PrintLast Go.Proofs.YtklnbfdoklcmfaaW.PrintMore
attribute [local go_sem] max2_int min2_int max_two min_two max_three min_three max_four min_four   -- for this text's walks alone
set_option linter.unusedVariables false
set_option linter.unusedSimpArgs false

/-! ### fullerlaw10_GraphCuts: function 4 -/
mutual
def fullerlaw10_GraphCuts.j0 : Nat → List (S35) → Int → Int → Bool → Bool → Option (Bool)
 | 0, _, _, _, _, _ => none
 | k + 1, x0, x1, x2, x7, x23 => if x23 = true then (some x7) else (if (x0.length : Int) = 0 then (none) else (if 0 ≤ (wrap64 (1 + (Int.tmod (wrap64 (x1)) (x0.length : Int)))) then (if (wrap64 (1 + (Int.tmod (wrap64 (x1)) (x0.length : Int)))) ≤ (x0.length : Int) then ((graph_Params.f k (x0.take ((wrap64 (1 + (Int.tmod (wrap64 (x1)) (x0.length : Int)))) : Int).toNat)).bind fun t413 => ((graph_Params.f k x0).bind fun t416 => (fullerlaw10_GraphCuts.l0 k x0 x1 x2 x7 (wrap64 (1 + (Int.tmod (wrap64 (x1)) (x0.length : Int)))) t413 t416 0))) else (none)) else (none)))
def fullerlaw10_GraphCuts.l0 : Nat → List (S35) → Int → Int → Bool → Int → List Int → List Int → Int → Option (Bool)
 | 0, _, _, _, _, _, _, _, _ => none
 | k + 1, x0, x1, x2, x7, x8, x9, x10, x11 => if x11 < (x9.length : Int) then (if 0 ≤ x11 then ((fullerref10_In.f k x10 (rd x9 x11)).bind fun t420 => (if t420 = true then (fullerlaw10_GraphCuts.l0 k x0 x1 x2 x7 x8 x9 x10 (wrap64 (x11 + 1))) else (some false))) else (none)) else ((some (([] : List (S35)) : List (S35))).bind fun y421 => (if y421.length + x0.length < 2513169434916 then ((some (y421 ++ x0 : List (S35))).bind fun y424 => (if y424.length < 2513169434916 then ((some (y424 ++ [(⟨3, ([] : List Int), (([wrap64 (x1)] : List Int))⟩ : S35)] : List (S35))).bind fun y430 => ((graph_Check.f y430).bind fun t433 => (if (x0.length : Int) = 24 then (if x7 = true then (if 0 ≤ x8 then (if x8 ≤ (x0.length : Int) then ((graph_Check.f (x0.take (x8 : Int).toNat)).bind fun t439 => (if t439 = true then (if (t433 == (decide ((x0.length : Int) < 24))) = true then ((graph_Uses.f k (x0.take (x8 : Int).toNat) x2).bind fun t445 => ((graph_Uses.f k x0 x2).bind fun t448 => (some (decide ((t445.length : Int) ≤ (t448.length : Int)))))) else (none)) else (none))) else (none)) else (none)) else (none)) else ((graph_Params.f k y430).bind fun t451 => ((fullerref02_Same.f k t451 x10).bind fun t454 => (if t454 = true then ((graph_Uses.f k y430 x2).bind fun t455 => ((graph_Uses.f k x0 x2).bind fun t458 => ((fullerref02_Same.f k t455 t458).bind fun t461 => (if t461 = true then ((graph_Live.f y430).bind fun t462 => (if x7 = true then (if 0 ≤ x8 then (if x8 ≤ (x0.length : Int) then ((graph_Check.f (x0.take (x8 : Int).toNat)).bind fun t470 => (if t470 = true then (if (t433 == (decide ((x0.length : Int) < 24))) = true then (if (t462.length : Int) = 1 then ((graph_Uses.f k (x0.take (x8 : Int).toNat) x2).bind fun t476 => ((graph_Uses.f k x0 x2).bind fun t479 => (some (decide ((t476.length : Int) ≤ (t479.length : Int)))))) else (none)) else (none)) else (none))) else (none)) else (none)) else (none))) else (none))))) else (none))))))) else (none))) else (none)))
end
def fullerlaw10_GraphCuts.f (k : Nat) (l0 : List (S35)) (a1 : Int) (a2 : Int) : Option (Bool) := (fullerlaw10_awake.f k).bind fun t405 => ((fullerref10_Few.f k l0).bind fun t406 => (if t406 = true then ((graph_Check.f l0).bind fun t407 => (fullerlaw10_GraphCuts.j0 k l0 a1 a2 t405 (!t407))) else (fullerlaw10_GraphCuts.j0 k l0 a1 a2 t405 true)))
theorem fullerlaw10_GraphCuts.mono_l : ∀ k, (∀ y0 y1 y2 y3 y4, LeO (fullerlaw10_GraphCuts.j0 k y0 y1 y2 y3 y4) (fullerlaw10_GraphCuts.j0 (k + 1) y0 y1 y2 y3 y4)) ∧ (∀ y0 y1 y2 y3 y4 y5 y6 y7, LeO (fullerlaw10_GraphCuts.l0 k y0 y1 y2 y3 y4 y5 y6 y7) (fullerlaw10_GraphCuts.l0 (k + 1) y0 y1 y2 y3 y4 y5 y6 y7))
 | 0 => ⟨fun _ _ _ _ _ r h => by simp [fullerlaw10_GraphCuts.j0] at h, fun _ _ _ _ _ _ _ _ r h => by simp [fullerlaw10_GraphCuts.l0] at h⟩
 | k + 1 => by
  obtain ⟨ih0, ih1⟩ := fullerlaw10_GraphCuts.mono_l k
  refine ⟨?_, ?_⟩
  ·intro y0 y1 y2 y3 y4
   unfold fullerlaw10_GraphCuts.j0
   repeat' first
   | (with_reducible exact ih0 _ _ _ _ _)
   | (with_reducible exact ih1 _ _ _ _ _ _ _ _)
   | (with_reducible exact fullerlaw10_awake.mono _)
   | (with_reducible exact fullerref02_Same.mono _ _ _)
   | (with_reducible exact fullerref10_Few.mono _ _)
   | (with_reducible exact fullerref10_In.mono _ _ _)
   | (with_reducible exact graph_Params.mono _ _)
   | (with_reducible exact graph_Uses.mono _ _ _)
   | (with_reducible exact LeO.refl _)
   | (with_reducible exact LeO.none _)
   | (with_reducible refine LeO.ite ?_ ?_)
   | (with_reducible refine LeO.bind ?_ (fun _ => ?_))
   | exact ih0 _ _ _ _ _
   | exact ih1 _ _ _ _ _ _ _ _
   | exact fullerlaw10_awake.mono _
   | exact fullerref02_Same.mono _ _ _
   | exact fullerref10_Few.mono _ _
   | exact fullerref10_In.mono _ _ _
   | exact graph_Params.mono _ _
   | exact graph_Uses.mono _ _ _
   | exact LeO.none _
   | refine LeO.ite ?_ ?_
   | refine LeO.bind ?_ (fun _ => ?_)
  ·intro y0 y1 y2 y3 y4 y5 y6 y7
   unfold fullerlaw10_GraphCuts.l0
   repeat' first
   | (with_reducible exact ih0 _ _ _ _ _)
   | (with_reducible exact ih1 _ _ _ _ _ _ _ _)
   | (with_reducible exact fullerlaw10_awake.mono _)
   | (with_reducible exact fullerref02_Same.mono _ _ _)
   | (with_reducible exact fullerref10_Few.mono _ _)
   | (with_reducible exact fullerref10_In.mono _ _ _)
   | (with_reducible exact graph_Params.mono _ _)
   | (with_reducible exact graph_Uses.mono _ _ _)
   | (with_reducible exact LeO.refl _)
   | (with_reducible exact LeO.none _)
   | (with_reducible refine LeO.ite ?_ ?_)
   | (with_reducible refine LeO.bind ?_ (fun _ => ?_))
   | exact ih0 _ _ _ _ _
   | exact ih1 _ _ _ _ _ _ _ _
   | exact fullerlaw10_awake.mono _
   | exact fullerref02_Same.mono _ _ _
   | exact fullerref10_Few.mono _ _
   | exact fullerref10_In.mono _ _ _
   | exact graph_Params.mono _ _
   | exact graph_Uses.mono _ _ _
   | exact LeO.none _
   | refine LeO.ite ?_ ?_
   | refine LeO.bind ?_ (fun _ => ?_)
theorem fullerlaw10_GraphCuts.mono : ∀ a0 a1 a2 k, LeO (fullerlaw10_GraphCuts.f k a0 a1 a2) (fullerlaw10_GraphCuts.f (k + 1) a0 a1 a2) := by
 intro a0 a1 a2 k
 obtain ⟨ih0, ih1⟩ := fullerlaw10_GraphCuts.mono_l k
 unfold fullerlaw10_GraphCuts.f
 repeat' first
   | (with_reducible exact ih0 _ _ _ _ _)
   | (with_reducible exact ih1 _ _ _ _ _ _ _ _)
   | (with_reducible exact fullerlaw10_awake.mono _)
   | (with_reducible exact fullerref02_Same.mono _ _ _)
   | (with_reducible exact fullerref10_Few.mono _ _)
   | (with_reducible exact fullerref10_In.mono _ _ _)
   | (with_reducible exact graph_Params.mono _ _)
   | (with_reducible exact graph_Uses.mono _ _ _)
   | (with_reducible exact LeO.refl _)
   | (with_reducible exact LeO.none _)
   | (with_reducible refine LeO.ite ?_ ?_)
   | (with_reducible refine LeO.bind ?_ (fun _ => ?_))
   | exact ih0 _ _ _ _ _
   | exact ih1 _ _ _ _ _ _ _ _
   | exact fullerlaw10_awake.mono _
   | exact fullerref02_Same.mono _ _ _
   | exact fullerref10_Few.mono _ _
   | exact fullerref10_In.mono _ _ _
   | exact graph_Params.mono _ _
   | exact graph_Uses.mono _ _ _
   | exact LeO.none _
   | refine LeO.ite ?_ ?_
   | refine LeO.bind ?_ (fun _ => ?_)
set_option maxHeartbeats 8000000 in
set_option maxRecDepth 100000 in
theorem fullerlaw10_GraphCuts.calls (k : Nat) (P0_ : Nat → Prop) (A0 : Option Addr) (c0 : Nat) (l0 : List (S35)) (a1 : Int) (a2 : Int) (r : Bool) (w : World) (hs0 : Kd.V k35 35 w w.heap.size (fun k_ => P0_ k_) (.slice A0 l0.length c0) l0) (h : fullerlaw10_GraphCuts.f k l0 a1 a2 = some r) :
  Calls Try.prog 4 #[.slice A0 l0.length c0, .int .u8 a1, .int .i64 a2] w fun e w' => e = .returned (.bool r) ∧ Below w.heap.size w w' := by
 have hu35 := Try.underlying35
 have HO0 := Aside0.mk (show Kd.V k35 35 w w.heap.size (fun k_ => (P0_ k_ ∨ w.heap.size ≤ k_)) (.slice A0 l0.length c0) l0 from Kd.V_mono hs0 (fun k_ hk => .inl hk))
 have HB := Aside0.mk (Below.refl w.heap.size w)
 have H : ((fullerlaw10_awake.f k).bind fun t405 => ((fullerref10_Few.f k l0).bind fun t406 => (if t406 = true then ((graph_Check.f l0).bind fun t407 => (fullerlaw10_GraphCuts.j0 k l0 a1 a2 t405 (!t407))) else (fullerlaw10_GraphCuts.j0 k l0 a1 a2 t405 true)))) = some r := h
 clear h
 replace H := Option.bind_eq_some_iff.mp H
 obtain ⟨t405, A40, H⟩ := H
 replace H : ((fullerref10_Few.f k l0).bind fun t406 => (if t406 = true then ((graph_Check.f l0).bind fun t407 => (fullerlaw10_GraphCuts.j0 k l0 a1 a2 t405 (!t407))) else (fullerlaw10_GraphCuts.j0 k l0 a1 a2 t405 true))) = some r := H
 have A4 := Aside0.mk A40
 clear A40
 have HC5 := Aside0.mk H
 clear H
 go_enter Try.func4, Try.ntmps4
 go_upto_region 2 with (first | ((with_reducible refine gate_callee (f := 9) rfl ?_); refine gL_ (some 15) Try.func9 #[] ?_; (with_reducible refine (fullerlaw10_awake.calls k  t405 _ A4.out).mono ?_); rintro e w6 ⟨rfl, hb⟩; refine ⟨_, rfl, ?_⟩; replace HO0 := Aside0.mk (Kd.V_below (mvV_ HO0.out) hb); replace HB := Aside0.mk (below_step (bq0_ HB.out) hb); (try clear hb)))
 (try simp only [Act.put, sA_, sB_, sC_])
 go_cut [23] (fun v23 wc => ∃ (kq : Nat) (x23_4 : Bool), v23 = .bool x23_4 ∧ Aside0 (fullerlaw10_GraphCuts.j0 kq l0 a1 a2 t405 x23_4 = some r) ∧ Aside0 (kq ≤ k) ∧ Aside0 (Kd.V k35 35 wc w.heap.size (fun k_ => (P0_ k_ ∨ w.heap.size ≤ k_)) (.slice A0 l0.length c0) l0) ∧ Aside0 (Below w.heap.size w wc))
 case first =>
  have H := HC5.out
  clear HC5
  replace H := Option.bind_eq_some_iff.mp H
  obtain ⟨t406, A70, H⟩ := H
  replace H : (if t406 = true then ((graph_Check.f l0).bind fun t407 => (fullerlaw10_GraphCuts.j0 k l0 a1 a2 t405 (!t407))) else (fullerlaw10_GraphCuts.j0 k l0 a1 a2 t405 true)) = some r := H
  have A7 := Aside0.mk A70
  clear A70
  by_cases c8 : t406 = true
  ·subst c8
   have H1 : ((graph_Check.f l0).bind fun t407 => (fullerlaw10_GraphCuts.j0 k l0 a1 a2 t405 (!t407))) = some r := by rw [if_pos rfl] at H; exact H
   clear H
   have H := H1
   clear H1
   replace H := Option.bind_eq_some_iff.mp H
   obtain ⟨t407, A90, H⟩ := H
   replace H : (fullerlaw10_GraphCuts.j0 k l0 a1 a2 t405 (!t407)) = some r := H
   have A9 := Aside0.mk A90
   clear A90
   have H' := Aside0.mk H
   clear H
   go_wp2_with (first | ((with_reducible refine gate_callee (f := 10) rfl ?_); refine gL_ (some 17) Try.func10 #[.slice A0 l0.length c0] ?_; (with_reducible refine (fullerref10_Few.calls k _ _ l0 true _ ?side1 ?side2 A7.out).mono ?_); (case side1 => exact mvC_ ((Kd.V_reads' HO0.out).2.2)); (case side2 => exact (Kd.V_reads' HO0.out).2.1); rintro e w' ⟨rfl, ⟨nd, rfl⟩⟩; refine ⟨_, rfl, ?_⟩) | (go_at_call 13; (with_reducible refine (graph_Check.calls _ _ l0 t407 _ ?side1 ?side2 A9.out).mono ?_); (case side1 => exact mvC_ ((Kd.V_reads' HO0.out).2.2)); (case side2 => exact (Kd.V_reads' HO0.out).2.1); rintro e w10 ⟨rfl, hb⟩; replace HO0 := Aside0.mk (Kd.V_below (mvV_ HO0.out) hb); replace HB := Aside0.mk (below_step (bq0_ HB.out) hb); (try clear hb)))
   go_meet
   case rel => exact ⟨_, (!t407), (by first | rfl | (simp; done) | (simp [*]; done)), H', ⟨by first | omega | exact Nat.le_refl _⟩, ⟨mvV_ HO0.out⟩, ⟨bq0_ HB.out⟩⟩
  ·replace c8 := Bool.eq_false_iff.mpr c8
   subst c8
   have H1 : (fullerlaw10_GraphCuts.j0 k l0 a1 a2 t405 true) = some r := by rw [if_neg (show ¬ (false = true) by decide)] at H; exact H
   clear H
   have H := H1
   clear H1
   have H' := Aside0.mk H
   clear H
   go_wp2_with (first | ((with_reducible refine gate_callee (f := 10) rfl ?_); refine gL_ (some 17) Try.func10 #[.slice A0 l0.length c0] ?_; (with_reducible refine (fullerref10_Few.calls k _ _ l0 false _ ?side1 ?side2 A7.out).mono ?_); (case side1 => exact mvC_ ((Kd.V_reads' HO0.out).2.2)); (case side2 => exact (Kd.V_reads' HO0.out).2.1); rintro e w' ⟨rfl, ⟨nd, rfl⟩⟩; refine ⟨_, rfl, ?_⟩))
   go_meet
   case rel => exact ⟨_, (true), (by first | rfl | (simp; done) | (simp [*]; done)), H', ⟨by first | omega | exact Nat.le_refl _⟩, ⟨mvV_ HO0.out⟩, ⟨bq0_ HB.out⟩⟩
 case rest =>
  clear HC5
  try clear c1
  try clear p2
  try clear c4
  try clear c8
  try clear c9
  try clear c10
  obtain ⟨kq, x23_4, rfl, HA, HJ4, HO_0, HB⟩ := hcut
  cases kq with
  | zero => exact absurd HA.out (by simp [fullerlaw10_GraphCuts.j0])
  | succ kj4 =>
   have H := HA.out
   clear HA
   simp only [fullerlaw10_GraphCuts.j0] at H
   by_cases c11 : x23_4 = true
   ·subst c11
    have H1 : (some t405) = some r := by rw [if_pos rfl] at H; exact H
    clear H
    have H := H1
    clear H1
    obtain rfl := Option.some.inj H
    go_wp2
    go_ret
    exact ⟨by first | rfl | (simp <;> rfl) | (simp [*] <;> rfl), bq0_ HB.out⟩
   ·replace c11 := Bool.eq_false_iff.mpr c11
    subst c11
    have H1 : (if (l0.length : Int) = 0 then (none) else (if 0 ≤ (wrap64 (1 + (Int.tmod (wrap64 (a1)) (l0.length : Int)))) then (if (wrap64 (1 + (Int.tmod (wrap64 (a1)) (l0.length : Int)))) ≤ (l0.length : Int) then ((graph_Params.f kj4 (l0.take ((wrap64 (1 + (Int.tmod (wrap64 (a1)) (l0.length : Int)))) : Int).toNat)).bind fun t413 => ((graph_Params.f kj4 l0).bind fun t416 => (fullerlaw10_GraphCuts.l0 kj4 l0 a1 a2 t405 (wrap64 (1 + (Int.tmod (wrap64 (a1)) (l0.length : Int)))) t413 t416 0))) else (none)) else (none))) = some r := by rw [if_neg (show ¬ (false = true) by decide)] at H; exact H
    clear H
    have H := H1
    clear H1
    by_cases c12 : (l0.length : Int) = 0
    ·rw [if_pos c12] at H
     exact absurd H (by simp)
    ·rw [if_neg c12] at H
     have c12b0 : ((l0.length : Int) == 0) = false := beq_eq_false_iff_ne.mpr c12
     have c12b1 : ((l0.length : Int) != 0) = true := bne_iff_ne.mpr c12
     have c12b2 : ¬ (l0 = []) := fun h_ => c12 (by rw [h_]; rfl)
     obtain ⟨ji13, hji13⟩ : ∃ j_ : Int, (wrap64 (1 + (Int.tmod (wrap64 (a1)) (l0.length : Int)))) = j_ := ⟨_, rfl⟩
     replace H : (if 0 ≤ (ji13) then (if (ji13) ≤ (l0.length : Int) then ((graph_Params.f kj4 (l0.take ((ji13) : Int).toNat)).bind fun t413 => ((graph_Params.f kj4 l0).bind fun t416 => (fullerlaw10_GraphCuts.l0 kj4 l0 a1 a2 t405 ji13 t413 t416 0))) else (none)) else (none)) = some r := by first | (rw [hji13] at H; exact H) | (simp only [hji13] at H ⊢; exact H)
     have hji13w : (IntKind.i64.wrap (1 + (Int.tmod (wrap64 (a1)) (l0.length : Int)))) = ji13 := (i64_w _).trans hji13
     by_cases c14 : 0 ≤ (ji13)
     ·rw [if_pos c14] at H
      have c14b0 := eq_true c14
      have c14b1 : decide (0 ≤ (ji13)) = true := decide_eq_true c14
      clear c14
      by_cases c15 : (ji13) ≤ (l0.length : Int)
      ·rw [if_pos c15] at H
       have c15b0 := eq_true c15
       have c15b1 : decide ((ji13) ≤ (l0.length : Int)) = true := decide_eq_true c15
       clear c15
       obtain ⟨y408, hy408⟩ : ∃ y_ : List (S35), y_ = (l0.take ((ji13) : Int).toNat) := ⟨_, rfl⟩
       replace H : ((graph_Params.f kj4 y408).bind fun t413 => ((graph_Params.f kj4 l0).bind fun t416 => (fullerlaw10_GraphCuts.l0 kj4 l0 a1 a2 t405 ji13 t413 t416 0))) = some r := by first | (rw [hy408]; with_reducible exact H) | (have H2_ := (Option.bind_some _ _).symm.trans H; rw [hy408]; with_reducible exact H2_) | (have H2_ := (Option.bind_some _ _).symm.trans H; with_reducible exact H2_) | with_reducible exact H | (rw [hy408]; exact H) | exact H
       have Ny408 := Aside0.mk hy408
       clear hy408
       replace H := Option.bind_eq_some_iff.mp H
       obtain ⟨t413, A160, H⟩ := H
       replace H : ((graph_Params.f kj4 l0).bind fun t416 => (fullerlaw10_GraphCuts.l0 kj4 l0 a1 a2 t405 ji13 t413 t416 0)) = some r := H
       have A16 := Aside0.mk A160
       clear A160
       replace H := Option.bind_eq_some_iff.mp H
       obtain ⟨t416, A170, H⟩ := H
       replace H : (fullerlaw10_GraphCuts.l0 kj4 l0 a1 a2 t405 ji13 t413 t416 0) = some r := H
       have A17 := Aside0.mk A170
       clear A170
       have H' := Aside0.mk H
       clear H
       have q18 : ((ji13) : Int) ≤ ((l0.length : Int) : Int) := od_
       obtain ⟨i018, hi018, _, hsz18, _⟩ := info_parts info35
       have hroom18 : l0.length ≤ c0 := (Kd.V_reads' HO_0.out).2.1
       have hC18 : Kd.F k35 _ _ A0 l0.length l0 := (Kd.V_at (base := w.heap.size) HO_0.out).2.2
       have hcut18 := cut_to (P := Try.prog) 22 35 .i64 Try.underlying22 hi018 A0 l0.length c0 (ji13) od_ q18 hroom18
       have hr18 := Kd.F_take (m := ((ji13) : Int).toNat) hC18 (by omega)
       have hy18 : y408.length = ((ji13) : Int).toNat := (by rw [Ny408.out, List.length_take]; omega)
       rw [← Ny408.out] at hr18
       rw [← hy18] at hcut18
       have HO412 := Aside0.mk (show Kd.V k35 35 _ w.heap.size _ (.slice A0 y408.length c0) y408 from Kd.V_mk (by omega) hr18)
       have HC412 := Aside0.mk (show y408.length ≤ c0 from by omega)
       clear hr18 hC18 hroom18 hi018 hsz18
       have KY18 := Aside0.mk hy18
       clear hy18
       replace q18 := eq_true q18
       go_wp2_with (first | ((with_reducible refine gate_callee (f := 18) rfl ?_); refine gL_ (some 34) Try.func18 #[.slice A0 y408.length c0] ?_; (with_reducible refine (graph_Params.calls kj4 _ _ y408 t413 _ ?side1 ?side2 A16.out).mono ?_); (case side1 => exact mvC_ ((Kd.V_reads' HO412.out).2.2)); (case side2 => exact (Kd.V_reads' HO412.out).2.1); rintro e w19 ⟨v414, rfl, ho0, hb⟩; refine ⟨_, rfl, ?_⟩; have HO415 := Aside0.mk (Kd.R_lower (Kd.R_newM (M := fun k_ => (w.heap.size ≤ k_)) ho0 (below_size (bq0_ HB.out)) (fun k_ h_ => h_)) (below_size (bq0_ HB.out))); replace HO_0 := Aside0.mk (Kd.V_elder' (mvV_ HO_0.out) (Kd.R_base ho0) hb); replace HO412 := Aside0.mk (Kd.V_elder' (mvV_ HO412.out) (Kd.R_base ho0) hb); replace HB := Aside0.mk (below_step (bq0_ HB.out) hb); (try clear hb); (try clear ho0)) | ((with_reducible refine gate_callee (f := 18) rfl ?_); refine gL_ (some 36) Try.func18 #[.slice A0 l0.length c0] ?_; (with_reducible refine (graph_Params.calls kj4 _ _ l0 t416 _ ?side1 ?side2 A17.out).mono ?_); (case side1 => exact mvC_ ((Kd.V_reads' HO_0.out).2.2)); (case side2 => exact (Kd.V_reads' HO_0.out).2.1); rintro e w20 ⟨v417, rfl, ho0, hb⟩; refine ⟨_, rfl, ?_⟩; have HO418 := Aside0.mk (Kd.R_lower (Kd.R_new' (Kd.R_newM (M := fun k_ => (w.heap.size ≤ k_)) ho0 (below_size (bq0_ HB.out)) (fun k_ h_ => h_)) (Kd.R_lt (mvR_ HO415.out))) (below_size (bq0_ HB.out))); replace HO_0 := Aside0.mk (Kd.V_elder' (mvV_ HO_0.out) (Kd.R_base ho0) hb); replace HO412 := Aside0.mk (Kd.V_elder' (mvV_ HO412.out) (Kd.R_base ho0) hb); replace HO415 := Aside0.mk (Kd.R_elder' (mvR_ HO415.out) (Kd.R_base ho0) hb); replace HB := Aside0.mk (below_step (bq0_ HB.out) hb); (try clear hb); (try clear ho0)))
       go_loopg [11] kj4 (fun kq v11 w' => ∃ (x11_2 : Int), v11 = .int .i64 x11_2 ∧ Aside0 (fullerlaw10_GraphCuts.l0 kq l0 a1 a2 t405 ji13 t413 t416 x11_2 = some r) ∧ Aside0 (kq ≤ kj4) ∧ Aside0 (Kd.V k35 35 w' w.heap.size (fun k_ => (P0_ k_ ∨ w.heap.size ≤ k_) ∧ some k_ ≠ (v414 : Value).ownBlock ∧ some k_ ≠ (v417 : Value).ownBlock) (.slice A0 l0.length c0) l0) ∧ Aside0 (Kd.R (Kd.int .i64) 3 w' w.heap.size (fun k_ => (w.heap.size ≤ k_) ∧ some k_ ≠ (v417 : Value).ownBlock) v414 t413) ∧ Aside0 (Kd.R (Kd.int .i64) 3 w' w.heap.size (fun k_ => (w.heap.size ≤ k_) ∧ some k_ ≠ (v414 : Value).ownBlock) v417 t416) ∧ Aside0 (Below w.heap.size w w'))
       case atStart => exact ⟨(0), (by first | rfl | (simp; done) | (simp [*]; done)), H', ⟨Nat.le_refl _⟩, ⟨by (with_reducible repeat (first | apply Kd.V_alloc | apply Kd.V_drewN | apply Kd.V_drew)); exact Kd.V_mono HO_0.out (fun _ hk => ⟨hk.1.1, ⟨hk.1.2, hk.2⟩⟩)⟩, ⟨by (with_reducible repeat (first | apply Kd.R_alloc | apply Kd.R_drewN | apply Kd.R_drew)); exact Kd.R_mono HO415.out (fun _ hk => ⟨hk.1.1, hk.2⟩)⟩, ⟨by (with_reducible repeat (first | apply Kd.R_alloc | apply Kd.R_drewN | apply Kd.R_drew)); exact Kd.R_mono HO418.out (fun _ hk => ⟨hk.1.1, hk.2⟩)⟩, ⟨bq0_ HB.out⟩⟩
       case round =>
        clear H'
        try clear c1
        try clear q1
        try clear p2
        try clear c4
        try clear p6
        try clear c8
        try clear c9
        try clear c10
        try clear c11
        try clear c12
        try clear c12b0
        try clear c12b1
        try clear c12b2
        try clear c14
        try clear c14b0
        try clear c14b1
        try clear c15
        try clear c15b0
        try clear c15b1
        try clear c18
        try clear q18
        try clear p2
        try clear q18
        obtain ⟨x11_2, rfl, HA, HK2, HO_0, HO_9, HO_10, HB⟩ := hrel
        cases gk with
        | zero => exact absurd HA.out (by simp [fullerlaw10_GraphCuts.l0])
        | succ k2 =>
         have H := HA.out
         clear HA
         simp only [fullerlaw10_GraphCuts.l0] at H
         by_cases c21 : x11_2 < (t413.length : Int)
         ·rw [if_pos c21] at H
          have c21b0 : decide (x11_2 < (t413.length : Int)) = true := decide_eq_true c21
          clear c21
          by_cases c22 : 0 ≤ x11_2
          ·rw [if_pos c22] at H
           have c22b0 : decide (0 ≤ x11_2) = true := decide_eq_true c22
           clear c22
           replace H := Option.bind_eq_some_iff.mp H
           obtain ⟨t420, A230, H⟩ := H
           replace H : (if t420 = true then (fullerlaw10_GraphCuts.l0 k2 l0 a1 a2 t405 ji13 t413 t416 (wrap64 (x11_2 + 1))) else (some false)) = some r := H
           have A23 := Aside0.mk A230
           clear A230
           by_cases c24 : t420 = true
           ·subst c24
            have H1 : (fullerlaw10_GraphCuts.l0 k2 l0 a1 a2 t405 ji13 t413 t416 (wrap64 (x11_2 + 1))) = some r := by rw [if_pos rfl] at H; exact H
            clear H
            have H := H1
            clear H1
            have H' := Aside0.mk H
            clear H
            obtain ⟨Ao25, co25, eo25⟩ := Kd.R_slice HO_9.out
            subst eo25
            have p419 : 0 ≤ (x11_2 : Int) := od_
            have q419 : x11_2 < (t413.length : Int) := od_
            obtain ⟨ad419, e419, hx419_0⟩ := Kd.at_int (Kd.R_reads' HO_9.out).2.2 x11_2 p419 q419
            cases e419
            replace p419 := eq_true p419
            replace q419 := eq_true q419
            obtain ⟨Ao26, co26, eo26⟩ := Kd.R_slice HO_10.out
            subst eo26
            go_wp2_with (first | ((with_reducible refine gate_callee (f := 24) rfl ?_); refine gL_ (some 48) Try.func24 #[.slice Ao26 t416.length co26, .int .i64 (rd t413 x11_2)] ?_; (with_reducible refine (fullerref10_In.calls k2 _ _ t416 (rd t413 x11_2) true _ ?side1 ?side2 A23.out).mono ?_); (case side1 => exact mvC_ ((Kd.R_reads' HO_10.out).2.2)); (case side2 => exact (Kd.R_reads' HO_10.out).2.1); rintro e w' ⟨rfl, ⟨nd, rfl⟩⟩; refine ⟨_, rfl, ?_⟩))
            go_roundg k2
            case measure => have := HJ4.out; have := HK2.out; omega
            case rel => exact ⟨(wrap64 (x11_2 + 1)), (by first | rfl | (simp; done) | (simp [*]; done)), H', ⟨by have := HJ4.out; have := HK2.out; omega⟩, ⟨mvV_ HO_0.out⟩, ⟨mvR_ HO_9.out⟩, ⟨mvR_ HO_10.out⟩, ⟨bq0_ HB.out⟩⟩
           ·replace c24 := Bool.eq_false_iff.mpr c24
            subst c24
            have H1 : (some false) = some r := by rw [if_neg (show ¬ (false = true) by decide)] at H; exact H
            clear H
            have H := H1
            clear H1
            obtain rfl := Option.some.inj H
            obtain ⟨Ao27, co27, eo27⟩ := Kd.R_slice HO_9.out
            subst eo27
            have p419 : 0 ≤ (x11_2 : Int) := od_
            have q419 : x11_2 < (t413.length : Int) := od_
            obtain ⟨ad419, e419, hx419_0⟩ := Kd.at_int (Kd.R_reads' HO_9.out).2.2 x11_2 p419 q419
            cases e419
            replace p419 := eq_true p419
            replace q419 := eq_true q419
            obtain ⟨Ao28, co28, eo28⟩ := Kd.R_slice HO_10.out
            subst eo28
            go_wp2_with (first | ((with_reducible refine gate_callee (f := 24) rfl ?_); refine gL_ (some 48) Try.func24 #[.slice Ao28 t416.length co28, .int .i64 (rd t413 x11_2)] ?_; (with_reducible refine (fullerref10_In.calls k2 _ _ t416 (rd t413 x11_2) false _ ?side1 ?side2 A23.out).mono ?_); (case side1 => exact mvC_ ((Kd.R_reads' HO_10.out).2.2)); (case side2 => exact (Kd.R_reads' HO_10.out).2.1); rintro e w' ⟨rfl, ⟨nd, rfl⟩⟩; refine ⟨_, rfl, ?_⟩))
            go_ret
            exact ⟨by first | rfl | (simp [errW_none, errW_some] <;> rfl) | (simp only [← hji13]; first | rfl | (simp [errW_none, errW_some] <;> rfl)) | (simp [*, errW_none, errW_some] <;> rfl), bq0_ HB.out⟩
          ·rw [if_neg c22] at H
           exact absurd H (by simp)
         ·rw [if_neg c21] at H
          have c21b0 : decide (x11_2 < (t413.length : Int)) = false := decide_eq_false c21
          clear c21
          obtain ⟨y421, hy421⟩ : ∃ y_ : List (S35), y_ = (([] : List (S35))) := ⟨_, rfl⟩
          replace H : (if y421.length + l0.length < 2513169434916 then ((some (y421 ++ l0 : List (S35))).bind fun y424 => (if y424.length < 2513169434916 then ((some (y424 ++ [(⟨3, ([] : List Int), (([wrap64 (a1)] : List Int))⟩ : S35)] : List (S35))).bind fun y430 => ((graph_Check.f y430).bind fun t433 => (if (l0.length : Int) = 24 then (if t405 = true then (if 0 ≤ ji13 then (if ji13 ≤ (l0.length : Int) then ((graph_Check.f (l0.take (ji13 : Int).toNat)).bind fun t439 => (if t439 = true then (if (t433 == (decide ((l0.length : Int) < 24))) = true then ((graph_Uses.f k2 (l0.take (ji13 : Int).toNat) a2).bind fun t445 => ((graph_Uses.f k2 l0 a2).bind fun t448 => (some (decide ((t445.length : Int) ≤ (t448.length : Int)))))) else (none)) else (none))) else (none)) else (none)) else (none)) else ((graph_Params.f k2 y430).bind fun t451 => ((fullerref02_Same.f k2 t451 t416).bind fun t454 => (if t454 = true then ((graph_Uses.f k2 y430 a2).bind fun t455 => ((graph_Uses.f k2 l0 a2).bind fun t458 => ((fullerref02_Same.f k2 t455 t458).bind fun t461 => (if t461 = true then ((graph_Live.f y430).bind fun t462 => (if t405 = true then (if 0 ≤ ji13 then (if ji13 ≤ (l0.length : Int) then ((graph_Check.f (l0.take (ji13 : Int).toNat)).bind fun t470 => (if t470 = true then (if (t433 == (decide ((l0.length : Int) < 24))) = true then (if (t462.length : Int) = 1 then ((graph_Uses.f k2 (l0.take (ji13 : Int).toNat) a2).bind fun t476 => ((graph_Uses.f k2 l0 a2).bind fun t479 => (some (decide ((t476.length : Int) ≤ (t479.length : Int)))))) else (none)) else (none)) else (none))) else (none)) else (none)) else (none))) else (none))))) else (none))))))) else (none))) else (none)) = some r := by first | (rw [hy421]; with_reducible exact H) | (have H2_ := (Option.bind_some _ _).symm.trans H; rw [hy421]; with_reducible exact H2_) | (have H2_ := (Option.bind_some _ _).symm.trans H; with_reducible exact H2_) | with_reducible exact H | (rw [hy421]; exact H) | exact H
          have Ny421 := Aside0.mk hy421
          clear hy421
          by_cases c29 : y421.length + l0.length < 2513169434916
          ·rw [if_pos c29] at H
           have LMc29 := Aside0.mk c29
           clear c29
           obtain ⟨y424, hy424⟩ : ∃ y_ : List (S35), y_ = (y421 ++ l0) := ⟨_, rfl⟩
           replace H : (if y424.length < 2513169434916 then ((some (y424 ++ [(⟨3, ([] : List Int), (([wrap64 (a1)] : List Int))⟩ : S35)] : List (S35))).bind fun y430 => ((graph_Check.f y430).bind fun t433 => (if (l0.length : Int) = 24 then (if t405 = true then (if 0 ≤ ji13 then (if ji13 ≤ (l0.length : Int) then ((graph_Check.f (l0.take (ji13 : Int).toNat)).bind fun t439 => (if t439 = true then (if (t433 == (decide ((l0.length : Int) < 24))) = true then ((graph_Uses.f k2 (l0.take (ji13 : Int).toNat) a2).bind fun t445 => ((graph_Uses.f k2 l0 a2).bind fun t448 => (some (decide ((t445.length : Int) ≤ (t448.length : Int)))))) else (none)) else (none))) else (none)) else (none)) else (none)) else ((graph_Params.f k2 y430).bind fun t451 => ((fullerref02_Same.f k2 t451 t416).bind fun t454 => (if t454 = true then ((graph_Uses.f k2 y430 a2).bind fun t455 => ((graph_Uses.f k2 l0 a2).bind fun t458 => ((fullerref02_Same.f k2 t455 t458).bind fun t461 => (if t461 = true then ((graph_Live.f y430).bind fun t462 => (if t405 = true then (if 0 ≤ ji13 then (if ji13 ≤ (l0.length : Int) then ((graph_Check.f (l0.take (ji13 : Int).toNat)).bind fun t470 => (if t470 = true then (if (t433 == (decide ((l0.length : Int) < 24))) = true then (if (t462.length : Int) = 1 then ((graph_Uses.f k2 (l0.take (ji13 : Int).toNat) a2).bind fun t476 => ((graph_Uses.f k2 l0 a2).bind fun t479 => (some (decide ((t476.length : Int) ≤ (t479.length : Int)))))) else (none)) else (none)) else (none))) else (none)) else (none)) else (none))) else (none))))) else (none))))))) else (none)) = some r := by first | (rw [hy424]; with_reducible exact H) | (have H2_ := (Option.bind_some _ _).symm.trans H; rw [hy424]; with_reducible exact H2_) | (have H2_ := (Option.bind_some _ _).symm.trans H; with_reducible exact H2_) | with_reducible exact H | (rw [hy424]; exact H) | exact H
           have Ny424 := Aside0.mk hy424
           clear hy424
           obtain ⟨y427, hy427⟩ : ∃ y_ : List Int, y_ = (([wrap64 (a1)] : List Int)) := ⟨_, rfl⟩
           replace H : (if y424.length < 2513169434916 then ((some (y424 ++ [(⟨3, ([] : List Int), y427⟩ : S35)] : List (S35))).bind fun y430 => ((graph_Check.f y430).bind fun t433 => (if (l0.length : Int) = 24 then (if t405 = true then (if 0 ≤ ji13 then (if ji13 ≤ (l0.length : Int) then ((graph_Check.f (l0.take (ji13 : Int).toNat)).bind fun t439 => (if t439 = true then (if (t433 == (decide ((l0.length : Int) < 24))) = true then ((graph_Uses.f k2 (l0.take (ji13 : Int).toNat) a2).bind fun t445 => ((graph_Uses.f k2 l0 a2).bind fun t448 => (some (decide ((t445.length : Int) ≤ (t448.length : Int)))))) else (none)) else (none))) else (none)) else (none)) else (none)) else ((graph_Params.f k2 y430).bind fun t451 => ((fullerref02_Same.f k2 t451 t416).bind fun t454 => (if t454 = true then ((graph_Uses.f k2 y430 a2).bind fun t455 => ((graph_Uses.f k2 l0 a2).bind fun t458 => ((fullerref02_Same.f k2 t455 t458).bind fun t461 => (if t461 = true then ((graph_Live.f y430).bind fun t462 => (if t405 = true then (if 0 ≤ ji13 then (if ji13 ≤ (l0.length : Int) then ((graph_Check.f (l0.take (ji13 : Int).toNat)).bind fun t470 => (if t470 = true then (if (t433 == (decide ((l0.length : Int) < 24))) = true then (if (t462.length : Int) = 1 then ((graph_Uses.f k2 (l0.take (ji13 : Int).toNat) a2).bind fun t476 => ((graph_Uses.f k2 l0 a2).bind fun t479 => (some (decide ((t476.length : Int) ≤ (t479.length : Int)))))) else (none)) else (none)) else (none))) else (none)) else (none)) else (none))) else (none))))) else (none))))))) else (none)) = some r := by first | (rw [hy427]; with_reducible exact H) | (have H2_ := (Option.bind_some _ _).symm.trans H; rw [hy427]; with_reducible exact H2_) | (have H2_ := (Option.bind_some _ _).symm.trans H; with_reducible exact H2_) | with_reducible exact H | (rw [hy427]; exact H) | exact H
           have Ny427 := Aside0.mk hy427
           clear hy427
           by_cases c30 : y424.length < 2513169434916
           ·rw [if_pos c30] at H
            have LMc30 := Aside0.mk c30
            clear c30
            obtain ⟨y430, hy430⟩ : ∃ y_ : List (S35), y_ = (y424 ++ [(⟨3, ([] : List Int), y427⟩ : S35)]) := ⟨_, rfl⟩
            replace H : ((graph_Check.f y430).bind fun t433 => (if (l0.length : Int) = 24 then (if t405 = true then (if 0 ≤ ji13 then (if ji13 ≤ (l0.length : Int) then ((graph_Check.f (l0.take (ji13 : Int).toNat)).bind fun t439 => (if t439 = true then (if (t433 == (decide ((l0.length : Int) < 24))) = true then ((graph_Uses.f k2 (l0.take (ji13 : Int).toNat) a2).bind fun t445 => ((graph_Uses.f k2 l0 a2).bind fun t448 => (some (decide ((t445.length : Int) ≤ (t448.length : Int)))))) else (none)) else (none))) else (none)) else (none)) else (none)) else ((graph_Params.f k2 y430).bind fun t451 => ((fullerref02_Same.f k2 t451 t416).bind fun t454 => (if t454 = true then ((graph_Uses.f k2 y430 a2).bind fun t455 => ((graph_Uses.f k2 l0 a2).bind fun t458 => ((fullerref02_Same.f k2 t455 t458).bind fun t461 => (if t461 = true then ((graph_Live.f y430).bind fun t462 => (if t405 = true then (if 0 ≤ ji13 then (if ji13 ≤ (l0.length : Int) then ((graph_Check.f (l0.take (ji13 : Int).toNat)).bind fun t470 => (if t470 = true then (if (t433 == (decide ((l0.length : Int) < 24))) = true then (if (t462.length : Int) = 1 then ((graph_Uses.f k2 (l0.take (ji13 : Int).toNat) a2).bind fun t476 => ((graph_Uses.f k2 l0 a2).bind fun t479 => (some (decide ((t476.length : Int) ≤ (t479.length : Int)))))) else (none)) else (none)) else (none))) else (none)) else (none)) else (none))) else (none))))) else (none)))))) = some r := by first | (rw [hy430]; with_reducible exact H) | (have H2_ := (Option.bind_some _ _).symm.trans H; rw [hy430]; with_reducible exact H2_) | (have H2_ := (Option.bind_some _ _).symm.trans H; with_reducible exact H2_) | with_reducible exact H | (rw [hy430]; exact H) | exact H
            have Ny430 := Aside0.mk hy430
            clear hy430
            replace H := Option.bind_eq_some_iff.mp H
            obtain ⟨t433, A310, H⟩ := H
            replace H : (if (l0.length : Int) = 24 then (if t405 = true then (if 0 ≤ ji13 then (if ji13 ≤ (l0.length : Int) then ((graph_Check.f (l0.take (ji13 : Int).toNat)).bind fun t439 => (if t439 = true then (if (t433 == (decide ((l0.length : Int) < 24))) = true then ((graph_Uses.f k2 (l0.take (ji13 : Int).toNat) a2).bind fun t445 => ((graph_Uses.f k2 l0 a2).bind fun t448 => (some (decide ((t445.length : Int) ≤ (t448.length : Int)))))) else (none)) else (none))) else (none)) else (none)) else (none)) else ((graph_Params.f k2 y430).bind fun t451 => ((fullerref02_Same.f k2 t451 t416).bind fun t454 => (if t454 = true then ((graph_Uses.f k2 y430 a2).bind fun t455 => ((graph_Uses.f k2 l0 a2).bind fun t458 => ((fullerref02_Same.f k2 t455 t458).bind fun t461 => (if t461 = true then ((graph_Live.f y430).bind fun t462 => (if t405 = true then (if 0 ≤ ji13 then (if ji13 ≤ (l0.length : Int) then ((graph_Check.f (l0.take (ji13 : Int).toNat)).bind fun t470 => (if t470 = true then (if (t433 == (decide ((l0.length : Int) < 24))) = true then (if (t462.length : Int) = 1 then ((graph_Uses.f k2 (l0.take (ji13 : Int).toNat) a2).bind fun t476 => ((graph_Uses.f k2 l0 a2).bind fun t479 => (some (decide ((t476.length : Int) ≤ (t479.length : Int)))))) else (none)) else (none)) else (none))) else (none)) else (none)) else (none))) else (none))))) else (none))))) = some r := H
            have A31 := Aside0.mk A310
            clear A310
            by_cases c32 : (l0.length : Int) = 24
            ·rw [if_pos c32] at H
             obtain ⟨c32b0, c32b1⟩ := eqT_ c32
             clear c32
             by_cases c33 : t405 = true
             ·subst c33
              have H1 : (if 0 ≤ ji13 then (if ji13 ≤ (l0.length : Int) then ((graph_Check.f (l0.take (ji13 : Int).toNat)).bind fun t439 => (if t439 = true then (if (t433 == (decide ((l0.length : Int) < 24))) = true then ((graph_Uses.f k2 (l0.take (ji13 : Int).toNat) a2).bind fun t445 => ((graph_Uses.f k2 l0 a2).bind fun t448 => (some (decide ((t445.length : Int) ≤ (t448.length : Int)))))) else (none)) else (none))) else (none)) else (none)) = some r := by rw [if_pos rfl] at H; exact H
              clear H
              have H := H1
              clear H1
              by_cases c34 : 0 ≤ ji13
              ·rw [if_pos c34] at H
               have c34b0 := eq_true c34
               have c34b1 : decide (0 ≤ ji13) = true := decide_eq_true c34
               clear c34
               by_cases c35 : ji13 ≤ (l0.length : Int)
               ·rw [if_pos c35] at H
                have c35b0 := eq_true c35
                have c35b1 : decide (ji13 ≤ (l0.length : Int)) = true := decide_eq_true c35
                clear c35
                obtain ⟨y434, hy434⟩ : ∃ y_ : List (S35), y_ = (l0.take (ji13 : Int).toNat) := ⟨_, rfl⟩
                replace H : ((graph_Check.f y434).bind fun t439 => (if t439 = true then (if (t433 == (decide ((l0.length : Int) < 24))) = true then ((graph_Uses.f k2 (l0.take (ji13 : Int).toNat) a2).bind fun t445 => ((graph_Uses.f k2 l0 a2).bind fun t448 => (some (decide ((t445.length : Int) ≤ (t448.length : Int)))))) else (none)) else (none))) = some r := by first | (rw [hy434]; with_reducible exact H) | (have H2_ := (Option.bind_some _ _).symm.trans H; rw [hy434]; with_reducible exact H2_) | (have H2_ := (Option.bind_some _ _).symm.trans H; with_reducible exact H2_) | with_reducible exact H | (rw [hy434]; exact H) | exact H
                have Ny434 := Aside0.mk hy434
                clear hy434
                replace H := Option.bind_eq_some_iff.mp H
                obtain ⟨t439, A360, H⟩ := H
                replace H : (if t439 = true then (if (t433 == (decide ((l0.length : Int) < 24))) = true then ((graph_Uses.f k2 (l0.take (ji13 : Int).toNat) a2).bind fun t445 => ((graph_Uses.f k2 l0 a2).bind fun t448 => (some (decide ((t445.length : Int) ≤ (t448.length : Int)))))) else (none)) else (none)) = some r := H
                have A36 := Aside0.mk A360
                clear A360
                by_cases c37 : t439 = true
                ·subst c37
                 have H1 : (if (t433 == (decide ((l0.length : Int) < 24))) = true then ((graph_Uses.f k2 (l0.take (ji13 : Int).toNat) a2).bind fun t445 => ((graph_Uses.f k2 l0 a2).bind fun t448 => (some (decide ((t445.length : Int) ≤ (t448.length : Int)))))) else (none)) = some r := by rw [if_pos rfl] at H; exact H
                 clear H
                 have H := H1
                 clear H1
                 by_cases c38 : (t433 == (decide ((l0.length : Int) < 24))) = true
                 ·rw [if_pos c38] at H
                  have c38b0 : (t433 == (decide ((l0.length : Int) < 24))) = true := c38
                  (try (have c38b1 : decide (t433 = (decide ((l0.length : Int) < 24))) = true := by simpa using c38))
                  (try (have c38b2 : (t433 == (decide ((l0.length : Int) < 24))) = true := by simpa using c38))
                  clear c38
                  have c39b0 := eq_true (od_ : 0 ≤ ji13)
                  have c40b0 := eq_true (od_ : ji13 ≤ (l0.length : Int))
                  obtain ⟨y440, hy440⟩ : ∃ y_ : List (S35), y_ = (l0.take (ji13 : Int).toNat) := ⟨_, rfl⟩
                  replace H : ((graph_Uses.f k2 y440 a2).bind fun t445 => ((graph_Uses.f k2 l0 a2).bind fun t448 => (some (decide ((t445.length : Int) ≤ (t448.length : Int)))))) = some r := by first | (rw [hy440]; with_reducible exact H) | (have H2_ := (Option.bind_some _ _).symm.trans H; rw [hy440]; with_reducible exact H2_) | (have H2_ := (Option.bind_some _ _).symm.trans H; with_reducible exact H2_) | with_reducible exact H | (rw [hy440]; exact H) | exact H
                  have Ny440 := Aside0.mk hy440
                  clear hy440
                  replace H := Option.bind_eq_some_iff.mp H
                  obtain ⟨t445, A410, H⟩ := H
                  replace H : ((graph_Uses.f k2 l0 a2).bind fun t448 => (some (decide ((t445.length : Int) ≤ (t448.length : Int))))) = some r := H
                  have A41 := Aside0.mk A410
                  clear A410
                  replace H := Option.bind_eq_some_iff.mp H
                  obtain ⟨t448, A420, H⟩ := H
                  replace H : (some (decide ((t445.length : Int) ≤ (t448.length : Int)))) = some r := H
                  have A42 := Aside0.mk A420
                  clear A420
                  obtain rfl := Option.some.inj H
                  obtain ⟨Ao43, co43, eo43⟩ := Kd.R_slice HO_9.out
                  subst eo43
                  go_wp2_with (first | ((with_reducible refine gate_dst (N := 50) rfl ?_); (try (refine gate_guard (by rfl) ?_; dsimp only)); refine Kd.N_lit k35 _ 35 ?hg (N' := 50) ?hd (xs := ([] : List (S35))) (inner := []) (ok := (fun k_ => (P0_ k_ ∨ w.heap.size ≤ k_) ∧ some k_ ≠ (.slice Ao43 t413.length co43 : Value).ownBlock ∧ some k_ ≠ (v417 : Value).ownBlock)) (okp := (fun k_ => (P0_ k_ ∨ w.heap.size ≤ k_) ∧ some k_ ≠ (.slice Ao43 t413.length co43 : Value).ownBlock ∧ some k_ ≠ (v417 : Value).ownBlock)) ?hr ?hp (fun _ hk => hk) ((show ∀ k_, wr.heap.size ≤ k_ → (fun k_ => (P0_ k_ ∨ w.heap.size ≤ k_) ∧ some k_ ≠ (.slice Ao43 t413.length co43 : Value).ownBlock ∧ some k_ ≠ (v417 : Value).ownBlock) k_ from fun k_ hk => ⟨(.inr (Nat.le_trans (below_size (bq0_ HB.out)) hk)), Kd.fresh' (Kd.R_lt (mvR_ HO_9.out)) k_ hk, Kd.fresh' (Kd.R_lt (mvR_ HO_10.out)) k_ hk⟩) _ (Nat.le_refl _)) (Below.refl _ _) (Nat.le_refl _) (by simp) ?_; (case hd => rfl); (case hg => rfl); (case hr => first | (go_simp; done) | (go_simp; rfl)); (case hp => exact (Reps.none _ _)); intro v422 w44 ho45 hb hg_ hnew_; clear hg_ hnew_; (first | rw [← Ny421.out] at ho45 | (simp only [Int.reduceToNat] at ho45; rw [← Ny421.out] at ho45)); have HO423 := Aside0.mk (Kd.N_lower ho45 (below_size (bq0_ HB.out))); replace HO_0 := Aside0.mk (Kd.V_elder' (mvV_ HO_0.out) (Kd.N_base ho45) hb); replace HO_9 := Aside0.mk (Kd.R_below (mvR_ HO_9.out) hb); replace HO_10 := Aside0.mk (Kd.R_below (mvR_ HO_10.out) hb); replace HB := Aside0.mk (below_step (bq0_ HB.out) hb); clear hb ho45) | ((with_reducible refine gate_builtin (b := .append) (xs := #[.tmp 50, .tmp 51]) rfl ?_); (try (refine gate_guard (by rfl) ?_; dsimp only)); at_builtin; refine Kd.N_append_rows k35 (w0 := w) w.heap.size rfl (.tmp 50) (.tmp 51) 22 35 (.agg #[(.int .i64 0), (.slice none 0 0), (.slice none 0 0)]) 56 rfl Try.underlying22 info35 rfl (by decide) (by omega) v422 y421 l0 _ _ _ (fun k_ => (P0_ k_ ∨ w.heap.size ≤ k_) ∧ some k_ ≠ (.slice Ao43 t413.length co43 : Value).ownBlock ∧ some k_ ≠ (v417 : Value).ownBlock) (fun k_ => ((fun k_ => (P0_ k_ ∨ w.heap.size ≤ k_) ∧ some k_ ≠ (.slice Ao43 t413.length co43 : Value).ownBlock ∧ some k_ ≠ (v417 : Value).ownBlock)) k_ ∧ some k_ ≠ (v422 : Value).ownBlock) rfl rfl ?aO ?aR (fun _ hk => hk) ?aF ?aB ?aS ?aL ?_; (case aR => exact (by skip; exact Kd.V_F (Kd.V_mono (ok' := (fun k_ => ((fun k_ => (P0_ k_ ∨ w.heap.size ≤ k_) ∧ some k_ ≠ (.slice Ao43 t413.length co43 : Value).ownBlock ∧ some k_ ≠ (v417 : Value).ownBlock)) k_ ∧ some k_ ≠ (v422 : Value).ownBlock)) (HO_0.out) (fun k_ hk => ⟨⟨hk.1.1, ⟨hk.1.2.1, hk.1.2.2⟩⟩, hk.2⟩)))); (case aB => exact (bq0_ HB.out)); (case aF => exact (fun k_ hk => ⟨(.inr (Nat.le_trans (below_size (bq0_ HB.out)) hk)), Kd.fresh' (Kd.R_lt (mvR_ HO_9.out)) k_ hk, Kd.fresh' (Kd.R_lt (mvR_ HO_10.out)) k_ hk⟩)); (case aO => exact (mvN_ HO423.out)); (case aS => exact (below_size (bq0_ HB.out))); (case aL => have := LMc29.out; omega); intro v425 w46 ho hb hg hat; rw [← Ny424.out] at ho; have HO426 := Aside0.mk (ho); replace HO_0 := Aside0.mk (Kd.V_afterv (ok := (fun k_ => (P0_ k_ ∨ w.heap.size ≤ k_) ∧ some k_ ≠ (.slice Ao43 t413.length co43 : Value).ownBlock ∧ some k_ ≠ (v417 : Value).ownBlock)) (mvV_ HO_0.out) hg hat); replace HO_9 := Aside0.mk (Kd.R_over' (mvR_ HO_9.out) (Kd.N_typed (mvN_ HO423.out)) (by decide) hg); replace HO_10 := Aside0.mk (Kd.R_over' (mvR_ HO_10.out) (Kd.N_typed (mvN_ HO423.out)) (by decide) hg); replace HB := Aside0.mk (hb); clear HO423 ho hb hg hat) | ((with_reducible refine gate_dst (N := 55) rfl ?_); (try (refine gate_guard (by rfl) ?_; dsimp only)); refine Kd.R_lit (Kd.int .i64) _ 3 ?hg (N := 55) ?hd (xs := ([wrap64 (a1)] : List Int)) (inner := [.int .i64 (wrap64 (a1))]) (ok := fun _ => True) (okp := fun _ => True) ?hr ?hp (fun _ hk => hk) trivial (Below.refl _ _) (Nat.le_refl _) (by simp) ?_; (case hd => rfl); (case hg => rfl); (case hr => first | (go_simp; done) | (go_simp; rfl)); (case hp => exact (Reps.one (show Kd.M (Kd.int .i64) _ _ _ (wrap64 (a1)) [.int .i64 (wrap64 (a1))] from rfl) (Reps.none _ _))); intro v428 w47 ho48 hb hg_ hnew_; clear hg_ hnew_; (first | rw [← Ny427.out] at ho48 | (simp only [Int.reduceToNat] at ho48; rw [← Ny427.out] at ho48)); have HO429 := Aside0.mk (Kd.R_lower (Kd.R_new' (Kd.R_new' (Kd.R_newM (M := fun k_ => (w.heap.size ≤ k_)) ho48 (below_size (bq0_ HB.out)) (fun k_ h_ => h_)) (Kd.R_lt (mvR_ HO_9.out))) (Kd.R_lt (mvR_ HO_10.out))) (below_size (bq0_ HB.out))); replace HO_0 := Aside0.mk (Kd.V_elder' (mvV_ HO_0.out) (Kd.R_base ho48) hb); replace HO_9 := Aside0.mk (Kd.R_elder' (mvR_ HO_9.out) (Kd.R_base ho48) hb); replace HO_10 := Aside0.mk (Kd.R_elder' (mvR_ HO_10.out) (Kd.R_base ho48) hb); replace HO426 := Aside0.mk (Kd.N_elder' (mvN_ HO426.out) (Kd.R_base ho48) hb); replace HB := Aside0.mk (below_step (bq0_ HB.out) hb); clear hb ho48; obtain ⟨Ao49, co49, eo49⟩ := Kd.R_slice HO429.out; subst eo49) | ((with_reducible refine gate_builtin (b := .append) (xs := #[.tmp 52, .tmp 57]) rfl ?_); (try (refine gate_guard (by rfl) ?_; dsimp only)); at_builtin; refine Kd.N_append k35 (w0 := w) w.heap.size rfl (.tmp 52) (.tmp 57) 22 35 (.agg #[(.int .i64 0), (.slice none 0 0), (.slice none 0 0)]) 56 rfl Try.underlying22 info35 rfl (by decide) (by omega) v425 y424 (⟨3, ([] : List Int), y427⟩ : S35) [.int .i64 3, .slice none 0 0, .slice Ao49 y427.length co49] (fun k_ => (P0_ k_ ∨ w.heap.size ≤ k_) ∧ some k_ ≠ (.slice Ao43 t413.length co43 : Value).ownBlock ∧ some k_ ≠ (v417 : Value).ownBlock) (fun k_ => ((fun k_ => (P0_ k_ ∨ w.heap.size ≤ k_) ∧ some k_ ≠ (.slice Ao43 t413.length co43 : Value).ownBlock ∧ some k_ ≠ (v417 : Value).ownBlock)) k_ ∧ some k_ ≠ (v425 : Value).ownBlock) rfl rfl ?aP (fun _ hk => hk) ?aF ?aO ?aB ?aS ?aL ?_; (case aP => exact (k35_mkF _ _ (⟨3, ([] : List Int), y427⟩ : S35) (Nat.le_refl _) (Kd.F_nil _ _ _) (Kd.R_reads' (Kd.R_mono (ok' := (fun k_ => ((fun k_ => (P0_ k_ ∨ w.heap.size ≤ k_) ∧ some k_ ≠ (.slice Ao43 t413.length co43 : Value).ownBlock ∧ some k_ ≠ (v417 : Value).ownBlock)) k_ ∧ some k_ ≠ (v425 : Value).ownBlock)) (Kd.R_apart' (HO429.out) (Kd.N_typed HO426.out) (by decide)) (fun k_ hk => ⟨⟨(.inr (hk.1.1.1.1)), ⟨hk.1.1.2, hk.1.2⟩⟩, hk.2⟩))).2.1 (Kd.R_F (Kd.R_mono (ok' := (fun k_ => ((fun k_ => (P0_ k_ ∨ w.heap.size ≤ k_) ∧ some k_ ≠ (.slice Ao43 t413.length co43 : Value).ownBlock ∧ some k_ ≠ (v417 : Value).ownBlock)) k_ ∧ some k_ ≠ (v425 : Value).ownBlock)) (Kd.R_apart' (HO429.out) (Kd.N_typed HO426.out) (by decide)) (fun k_ hk => ⟨⟨(.inr (hk.1.1.1.1)), ⟨hk.1.1.2, hk.1.2⟩⟩, hk.2⟩))))); (case aB => exact (bq0_ HB.out)); (case aF => exact (fun k_ hk => ⟨(.inr (Nat.le_trans (below_size (bq0_ HB.out)) hk)), Kd.fresh' (Kd.R_lt (mvR_ HO_9.out)) k_ hk, Kd.fresh' (Kd.R_lt (mvR_ HO_10.out)) k_ hk⟩)); (case aO => exact (by (with_reducible repeat (first | apply Kd.N_alloc | apply Kd.N_drewN | apply Kd.N_drew)); exact Kd.N_mono HO426.out (fun _ hk => ⟨hk.1.1, ⟨hk.1.2.1, hk.1.2.2⟩⟩))); (case aS => exact (below_size (bq0_ HB.out))); (case aL => have := LMc30.out; omega); intro v431 w50 ho hb hg hat; rw [← Ny430.out] at ho; have HO432 := Aside0.mk (ho); replace HO_0 := Aside0.mk (Kd.V_afterv (ok := (fun k_ => (P0_ k_ ∨ w.heap.size ≤ k_) ∧ some k_ ≠ (.slice Ao43 t413.length co43 : Value).ownBlock ∧ some k_ ≠ (v417 : Value).ownBlock ∧ some k_ ≠ (.slice Ao49 y427.length co49 : Value).ownBlock)) (by (with_reducible repeat (first | apply Kd.V_alloc | apply Kd.V_drewN | apply Kd.V_drew)); exact Kd.V_mono HO_0.out (fun _ hk => ⟨⟨hk.1.1.1, ⟨hk.1.1.2.1, ⟨hk.1.1.2.2, hk.2⟩⟩⟩, hk.1.2⟩)) hg hat); replace HO_9 := Aside0.mk (Kd.R_over' (mvR_ HO_9.out) (Kd.N_typed (mvN_ HO426.out)) (by decide) hg); replace HO_10 := Aside0.mk (Kd.R_over' (mvR_ HO_10.out) (Kd.N_typed (mvN_ HO426.out)) (by decide) hg); replace HB := Aside0.mk (hb); clear HO426 HO429 ho hb hg hat; obtain ⟨Ao51, co51, eo51⟩ := Kd.N_slice HO432.out; subst eo51) | ((with_reducible refine gate_callee (f := 13) rfl ?_); refine gL_ (some 60) Try.func13 #[.slice Ao51 y430.length co51] ?_; (with_reducible refine (graph_Check.calls _ _ y430 t433 _ ?side1 ?side2 A31.out).mono ?_); (case side1 => exact mvC_ ((Kd.N_reads' HO432.out).2.2)); (case side2 => exact (Kd.N_reads' HO432.out).2.1); rintro e w52 ⟨rfl, hb⟩; refine ⟨_, rfl, ?_⟩; replace HO_0 := Aside0.mk (Kd.V_below (mvV_ HO_0.out) hb); replace HO_9 := Aside0.mk (Kd.R_below (mvR_ HO_9.out) hb); replace HO_10 := Aside0.mk (Kd.R_below (mvR_ HO_10.out) hb); replace HO432 := Aside0.mk (Kd.N_below (mvN_ HO432.out) hb); replace HB := Aside0.mk (below_step (bq0_ HB.out) hb); (try clear hb); have q53 : (ji13 : Int) ≤ ((l0.length : Int) : Int) := od_; obtain ⟨i053, hi053, _, hsz53, _⟩ := info_parts info35; have hroom53 : l0.length ≤ c0 := (Kd.V_reads' HO_0.out).2.1; have hC53 : Kd.F k35 _ _ A0 l0.length l0 := (Kd.V_at (base := w.heap.size) HO_0.out).2.2; (try clear hcut18); have hcut53 := cut_to (P := Try.prog) 22 35 .i64 Try.underlying22 hi053 A0 l0.length c0 ji13 od_ q53 hroom53; have hr53 := Kd.F_take (m := (ji13 : Int).toNat) hC53 (by omega); have hy53 : y434.length = (ji13 : Int).toNat := (by rw [Ny434.out, List.length_take]; omega); rw [← Ny434.out] at hr53; rw [← hy53] at hcut53; have HO438 := Aside0.mk (show Kd.V k35 35 _ w.heap.size _ (.slice A0 y434.length c0) y434 from Kd.V_mk (by omega) hr53); have HC438 := Aside0.mk (show y434.length ≤ c0 from by omega); clear hr53 hC53 hroom53 hi053 hsz53; have KY53 := Aside0.mk hy53; clear hy53; replace q53 := eq_true q53) | (go_at_call 13; (with_reducible refine (graph_Check.calls _ _ y434 true _ ?side1 ?side2 A36.out).mono ?_); (case side1 => exact mvC_ ((Kd.V_reads' HO438.out).2.2)); (case side2 => exact (Kd.V_reads' HO438.out).2.1); rintro e w54 ⟨rfl, hb⟩; replace HO_0 := Aside0.mk (Kd.V_below (mvV_ HO_0.out) hb); replace HO_9 := Aside0.mk (Kd.R_below (mvR_ HO_9.out) hb); replace HO_10 := Aside0.mk (Kd.R_below (mvR_ HO_10.out) hb); replace HO432 := Aside0.mk (Kd.N_below (mvN_ HO432.out) hb); replace HO438 := Aside0.mk (Kd.V_below (mvV_ HO438.out) hb); replace HB := Aside0.mk (below_step (bq0_ HB.out) hb); (try clear hb); have q55 : (ji13 : Int) ≤ ((l0.length : Int) : Int) := od_; obtain ⟨i055, hi055, _, hsz55, _⟩ := info_parts info35; have hroom55 : l0.length ≤ c0 := (Kd.V_reads' HO_0.out).2.1; have hC55 : Kd.F k35 _ _ A0 l0.length l0 := (Kd.V_at (base := w.heap.size) HO_0.out).2.2; (try clear hcut18); (try clear hcut53); have hcut55 := cut_to (P := Try.prog) 22 35 .i64 Try.underlying22 hi055 A0 l0.length c0 ji13 od_ q55 hroom55; have hr55 := Kd.F_take (m := (ji13 : Int).toNat) hC55 (by omega); have hy55 : y440.length = (ji13 : Int).toNat := (by rw [Ny440.out, List.length_take]; omega); rw [← Ny440.out] at hr55; rw [← hy55] at hcut55; have HO444 := Aside0.mk (show Kd.V k35 35 _ w.heap.size _ (.slice A0 y440.length c0) y440 from Kd.V_mk (by omega) hr55); have HC444 := Aside0.mk (show y440.length ≤ c0 from by omega); clear hr55 hC55 hroom55 hi055 hsz55; have KY55 := Aside0.mk hy55; clear hy55; replace q55 := eq_true q55) | (go_at_call 20; (with_reducible refine (graph_Uses.calls k2 _ _ y440 a2 t445 _ ?side1 ?side2 A41.out).mono ?_); (case side1 => exact mvC_ ((Kd.V_reads' HO444.out).2.2)); (case side2 => exact (Kd.V_reads' HO444.out).2.1); rintro e w56 ⟨v446, rfl, ho0, hb⟩; have HO447 := Aside0.mk (Kd.R_lower (Kd.R_new' (Kd.R_new' (Kd.R_newM (M := fun k_ => (w.heap.size ≤ k_)) ho0 (below_size (bq0_ HB.out)) (fun k_ h_ => h_)) (Kd.R_lt (mvR_ HO_9.out))) (Kd.R_lt (mvR_ HO_10.out))) (below_size (bq0_ HB.out))); replace HO_0 := Aside0.mk (Kd.V_elder' (mvV_ HO_0.out) (Kd.R_base ho0) hb); replace HO_9 := Aside0.mk (Kd.R_elder' (mvR_ HO_9.out) (Kd.R_base ho0) hb); replace HO_10 := Aside0.mk (Kd.R_elder' (mvR_ HO_10.out) (Kd.R_base ho0) hb); replace HO432 := Aside0.mk (Kd.N_elder' (mvN_ HO432.out) (Kd.R_base ho0) hb); replace HO438 := Aside0.mk (Kd.V_elder' (mvV_ HO438.out) (Kd.R_base ho0) hb); replace HO444 := Aside0.mk (Kd.V_elder' (mvV_ HO444.out) (Kd.R_base ho0) hb); replace HB := Aside0.mk (below_step (bq0_ HB.out) hb); (try clear hb); (try clear ho0); obtain ⟨Ao57, co57, eo57⟩ := Kd.R_slice HO447.out; subst eo57) | (go_at_call 20; (with_reducible refine (graph_Uses.calls k2 _ _ l0 a2 t448 _ ?side1 ?side2 A42.out).mono ?_); (case side1 => exact mvC_ ((Kd.V_reads' HO_0.out).2.2)); (case side2 => exact (Kd.V_reads' HO_0.out).2.1); rintro e w58 ⟨v449, rfl, ho0, hb⟩; have HO450 := Aside0.mk (Kd.R_lower (Kd.R_new' (Kd.R_new' (Kd.R_new' (Kd.R_newM (M := fun k_ => (w.heap.size ≤ k_)) ho0 (below_size (bq0_ HB.out)) (fun k_ h_ => h_)) (Kd.R_lt (mvR_ HO_9.out))) (Kd.R_lt (mvR_ HO_10.out))) (Kd.R_lt (mvR_ HO447.out))) (below_size (bq0_ HB.out))); replace HO_0 := Aside0.mk (Kd.V_elder' (mvV_ HO_0.out) (Kd.R_base ho0) hb); replace HO_9 := Aside0.mk (Kd.R_elder' (mvR_ HO_9.out) (Kd.R_base ho0) hb); replace HO_10 := Aside0.mk (Kd.R_elder' (mvR_ HO_10.out) (Kd.R_base ho0) hb); replace HO432 := Aside0.mk (Kd.N_elder' (mvN_ HO432.out) (Kd.R_base ho0) hb); replace HO438 := Aside0.mk (Kd.V_elder' (mvV_ HO438.out) (Kd.R_base ho0) hb); replace HO444 := Aside0.mk (Kd.V_elder' (mvV_ HO444.out) (Kd.R_base ho0) hb); replace HO447 := Aside0.mk (Kd.R_elder' (mvR_ HO447.out) (Kd.R_base ho0) hb); replace HB := Aside0.mk (below_step (bq0_ HB.out) hb); (try clear hb); (try clear ho0); obtain ⟨Ao59, co59, eo59⟩ := Kd.R_slice HO450.out; subst eo59))
                  go_ret
                  exact ⟨by first | rfl | (simp [errW_none, errW_some] <;> rfl) | (simp only [← hji13]; first | rfl | (simp [errW_none, errW_some] <;> rfl)) | (simp [*, errW_none, errW_some] <;> rfl), bq0_ HB.out⟩
                 ·rw [if_neg c38] at H
                  exact absurd H (by simp)
                ·replace c37 := Bool.eq_false_iff.mpr c37
                 subst c37
                 have H1 : (none) = some r := by rw [if_neg (show ¬ (false = true) by decide)] at H; exact H
                 clear H
                 have H := H1
                 clear H1
                 exact absurd H (by simp)
               ·rw [if_neg c35] at H
                exact absurd H (by simp)
              ·rw [if_neg c34] at H
               exact absurd H (by simp)
             ·replace c33 := Bool.eq_false_iff.mpr c33
              subst c33
              have H1 : (none) = some r := by rw [if_neg (show ¬ (false = true) by decide)] at H; exact H
              clear H
              have H := H1
              clear H1
              exact absurd H (by simp)
            ·rw [if_neg c32] at H
             have c32b0 : ((l0.length : Int) == 24) = false := beq_eq_false_iff_ne.mpr c32
             have c32b1 : ((l0.length : Int) != 24) = true := bne_iff_ne.mpr c32
             replace H := Option.bind_eq_some_iff.mp H
             obtain ⟨t451, A600, H⟩ := H
             replace H : ((fullerref02_Same.f k2 t451 t416).bind fun t454 => (if t454 = true then ((graph_Uses.f k2 y430 a2).bind fun t455 => ((graph_Uses.f k2 l0 a2).bind fun t458 => ((fullerref02_Same.f k2 t455 t458).bind fun t461 => (if t461 = true then ((graph_Live.f y430).bind fun t462 => (if t405 = true then (if 0 ≤ ji13 then (if ji13 ≤ (l0.length : Int) then ((graph_Check.f (l0.take (ji13 : Int).toNat)).bind fun t470 => (if t470 = true then (if (t433 == (decide ((l0.length : Int) < 24))) = true then (if (t462.length : Int) = 1 then ((graph_Uses.f k2 (l0.take (ji13 : Int).toNat) a2).bind fun t476 => ((graph_Uses.f k2 l0 a2).bind fun t479 => (some (decide ((t476.length : Int) ≤ (t479.length : Int)))))) else (none)) else (none)) else (none))) else (none)) else (none)) else (none))) else (none))))) else (none))) = some r := H
             have A60 := Aside0.mk A600
             clear A600
             replace H := Option.bind_eq_some_iff.mp H
             obtain ⟨t454, A610, H⟩ := H
             replace H : (if t454 = true then ((graph_Uses.f k2 y430 a2).bind fun t455 => ((graph_Uses.f k2 l0 a2).bind fun t458 => ((fullerref02_Same.f k2 t455 t458).bind fun t461 => (if t461 = true then ((graph_Live.f y430).bind fun t462 => (if t405 = true then (if 0 ≤ ji13 then (if ji13 ≤ (l0.length : Int) then ((graph_Check.f (l0.take (ji13 : Int).toNat)).bind fun t470 => (if t470 = true then (if (t433 == (decide ((l0.length : Int) < 24))) = true then (if (t462.length : Int) = 1 then ((graph_Uses.f k2 (l0.take (ji13 : Int).toNat) a2).bind fun t476 => ((graph_Uses.f k2 l0 a2).bind fun t479 => (some (decide ((t476.length : Int) ≤ (t479.length : Int)))))) else (none)) else (none)) else (none))) else (none)) else (none)) else (none))) else (none))))) else (none)) = some r := H
             have A61 := Aside0.mk A610
             clear A610
             by_cases c62 : t454 = true
             ·subst c62
              have H1 : ((graph_Uses.f k2 y430 a2).bind fun t455 => ((graph_Uses.f k2 l0 a2).bind fun t458 => ((fullerref02_Same.f k2 t455 t458).bind fun t461 => (if t461 = true then ((graph_Live.f y430).bind fun t462 => (if t405 = true then (if 0 ≤ ji13 then (if ji13 ≤ (l0.length : Int) then ((graph_Check.f (l0.take (ji13 : Int).toNat)).bind fun t470 => (if t470 = true then (if (t433 == (decide ((l0.length : Int) < 24))) = true then (if (t462.length : Int) = 1 then ((graph_Uses.f k2 (l0.take (ji13 : Int).toNat) a2).bind fun t476 => ((graph_Uses.f k2 l0 a2).bind fun t479 => (some (decide ((t476.length : Int) ≤ (t479.length : Int)))))) else (none)) else (none)) else (none))) else (none)) else (none)) else (none))) else (none))))) = some r := by rw [if_pos rfl] at H; exact H
              clear H
              have H := H1
              clear H1
              replace H := Option.bind_eq_some_iff.mp H
              obtain ⟨t455, A630, H⟩ := H
              replace H : ((graph_Uses.f k2 l0 a2).bind fun t458 => ((fullerref02_Same.f k2 t455 t458).bind fun t461 => (if t461 = true then ((graph_Live.f y430).bind fun t462 => (if t405 = true then (if 0 ≤ ji13 then (if ji13 ≤ (l0.length : Int) then ((graph_Check.f (l0.take (ji13 : Int).toNat)).bind fun t470 => (if t470 = true then (if (t433 == (decide ((l0.length : Int) < 24))) = true then (if (t462.length : Int) = 1 then ((graph_Uses.f k2 (l0.take (ji13 : Int).toNat) a2).bind fun t476 => ((graph_Uses.f k2 l0 a2).bind fun t479 => (some (decide ((t476.length : Int) ≤ (t479.length : Int)))))) else (none)) else (none)) else (none))) else (none)) else (none)) else (none))) else (none)))) = some r := H
              have A63 := Aside0.mk A630
              clear A630
              replace H := Option.bind_eq_some_iff.mp H
              obtain ⟨t458, A640, H⟩ := H
              replace H : ((fullerref02_Same.f k2 t455 t458).bind fun t461 => (if t461 = true then ((graph_Live.f y430).bind fun t462 => (if t405 = true then (if 0 ≤ ji13 then (if ji13 ≤ (l0.length : Int) then ((graph_Check.f (l0.take (ji13 : Int).toNat)).bind fun t470 => (if t470 = true then (if (t433 == (decide ((l0.length : Int) < 24))) = true then (if (t462.length : Int) = 1 then ((graph_Uses.f k2 (l0.take (ji13 : Int).toNat) a2).bind fun t476 => ((graph_Uses.f k2 l0 a2).bind fun t479 => (some (decide ((t476.length : Int) ≤ (t479.length : Int)))))) else (none)) else (none)) else (none))) else (none)) else (none)) else (none))) else (none))) = some r := H
              have A64 := Aside0.mk A640
              clear A640
              replace H := Option.bind_eq_some_iff.mp H
              obtain ⟨t461, A650, H⟩ := H
              replace H : (if t461 = true then ((graph_Live.f y430).bind fun t462 => (if t405 = true then (if 0 ≤ ji13 then (if ji13 ≤ (l0.length : Int) then ((graph_Check.f (l0.take (ji13 : Int).toNat)).bind fun t470 => (if t470 = true then (if (t433 == (decide ((l0.length : Int) < 24))) = true then (if (t462.length : Int) = 1 then ((graph_Uses.f k2 (l0.take (ji13 : Int).toNat) a2).bind fun t476 => ((graph_Uses.f k2 l0 a2).bind fun t479 => (some (decide ((t476.length : Int) ≤ (t479.length : Int)))))) else (none)) else (none)) else (none))) else (none)) else (none)) else (none))) else (none)) = some r := H
              have A65 := Aside0.mk A650
              clear A650
              by_cases c66 : t461 = true
              ·subst c66
               have H1 : ((graph_Live.f y430).bind fun t462 => (if t405 = true then (if 0 ≤ ji13 then (if ji13 ≤ (l0.length : Int) then ((graph_Check.f (l0.take (ji13 : Int).toNat)).bind fun t470 => (if t470 = true then (if (t433 == (decide ((l0.length : Int) < 24))) = true then (if (t462.length : Int) = 1 then ((graph_Uses.f k2 (l0.take (ji13 : Int).toNat) a2).bind fun t476 => ((graph_Uses.f k2 l0 a2).bind fun t479 => (some (decide ((t476.length : Int) ≤ (t479.length : Int)))))) else (none)) else (none)) else (none))) else (none)) else (none)) else (none))) = some r := by rw [if_pos rfl] at H; exact H
               clear H
               have H := H1
               clear H1
               replace H := Option.bind_eq_some_iff.mp H
               obtain ⟨t462, A670, H⟩ := H
               replace H : (if t405 = true then (if 0 ≤ ji13 then (if ji13 ≤ (l0.length : Int) then ((graph_Check.f (l0.take (ji13 : Int).toNat)).bind fun t470 => (if t470 = true then (if (t433 == (decide ((l0.length : Int) < 24))) = true then (if (t462.length : Int) = 1 then ((graph_Uses.f k2 (l0.take (ji13 : Int).toNat) a2).bind fun t476 => ((graph_Uses.f k2 l0 a2).bind fun t479 => (some (decide ((t476.length : Int) ≤ (t479.length : Int)))))) else (none)) else (none)) else (none))) else (none)) else (none)) else (none)) = some r := H
               have A67 := Aside0.mk A670
               clear A670
               by_cases c68 : t405 = true
               ·subst c68
                have H1 : (if 0 ≤ ji13 then (if ji13 ≤ (l0.length : Int) then ((graph_Check.f (l0.take (ji13 : Int).toNat)).bind fun t470 => (if t470 = true then (if (t433 == (decide ((l0.length : Int) < 24))) = true then (if (t462.length : Int) = 1 then ((graph_Uses.f k2 (l0.take (ji13 : Int).toNat) a2).bind fun t476 => ((graph_Uses.f k2 l0 a2).bind fun t479 => (some (decide ((t476.length : Int) ≤ (t479.length : Int)))))) else (none)) else (none)) else (none))) else (none)) else (none)) = some r := by rw [if_pos rfl] at H; exact H
                clear H
                have H := H1
                clear H1
                by_cases c69 : 0 ≤ ji13
                ·rw [if_pos c69] at H
                 have c69b0 := eq_true c69
                 have c69b1 : decide (0 ≤ ji13) = true := decide_eq_true c69
                 clear c69
                 by_cases c70 : ji13 ≤ (l0.length : Int)
                 ·rw [if_pos c70] at H
                  have c70b0 := eq_true c70
                  have c70b1 : decide (ji13 ≤ (l0.length : Int)) = true := decide_eq_true c70
                  clear c70
                  obtain ⟨y465, hy465⟩ : ∃ y_ : List (S35), y_ = (l0.take (ji13 : Int).toNat) := ⟨_, rfl⟩
                  replace H : ((graph_Check.f y465).bind fun t470 => (if t470 = true then (if (t433 == (decide ((l0.length : Int) < 24))) = true then (if (t462.length : Int) = 1 then ((graph_Uses.f k2 (l0.take (ji13 : Int).toNat) a2).bind fun t476 => ((graph_Uses.f k2 l0 a2).bind fun t479 => (some (decide ((t476.length : Int) ≤ (t479.length : Int)))))) else (none)) else (none)) else (none))) = some r := by first | (rw [hy465]; with_reducible exact H) | (have H2_ := (Option.bind_some _ _).symm.trans H; rw [hy465]; with_reducible exact H2_) | (have H2_ := (Option.bind_some _ _).symm.trans H; with_reducible exact H2_) | with_reducible exact H | (rw [hy465]; exact H) | exact H
                  have Ny465 := Aside0.mk hy465
                  clear hy465
                  replace H := Option.bind_eq_some_iff.mp H
                  obtain ⟨t470, A710, H⟩ := H
                  replace H : (if t470 = true then (if (t433 == (decide ((l0.length : Int) < 24))) = true then (if (t462.length : Int) = 1 then ((graph_Uses.f k2 (l0.take (ji13 : Int).toNat) a2).bind fun t476 => ((graph_Uses.f k2 l0 a2).bind fun t479 => (some (decide ((t476.length : Int) ≤ (t479.length : Int)))))) else (none)) else (none)) else (none)) = some r := H
                  have A71 := Aside0.mk A710
                  clear A710
                  by_cases c72 : t470 = true
                  ·subst c72
                   have H1 : (if (t433 == (decide ((l0.length : Int) < 24))) = true then (if (t462.length : Int) = 1 then ((graph_Uses.f k2 (l0.take (ji13 : Int).toNat) a2).bind fun t476 => ((graph_Uses.f k2 l0 a2).bind fun t479 => (some (decide ((t476.length : Int) ≤ (t479.length : Int)))))) else (none)) else (none)) = some r := by rw [if_pos rfl] at H; exact H
                   clear H
                   have H := H1
                   clear H1
                   by_cases c73 : (t433 == (decide ((l0.length : Int) < 24))) = true
                   ·rw [if_pos c73] at H
                    have c73b0 : (t433 == (decide ((l0.length : Int) < 24))) = true := c73
                    (try (have c73b1 : decide (t433 = (decide ((l0.length : Int) < 24))) = true := by simpa using c73))
                    (try (have c73b2 : (t433 == (decide ((l0.length : Int) < 24))) = true := by simpa using c73))
                    clear c73
                    by_cases c74 : (t462.length : Int) = 1
                    ·rw [if_pos c74] at H
                     obtain ⟨c74b0, c74b1⟩ := eqT_ c74
                     clear c74
                     have c75b0 := eq_true (od_ : 0 ≤ ji13)
                     have c76b0 := eq_true (od_ : ji13 ≤ (l0.length : Int))
                     obtain ⟨y471, hy471⟩ : ∃ y_ : List (S35), y_ = (l0.take (ji13 : Int).toNat) := ⟨_, rfl⟩
                     replace H : ((graph_Uses.f k2 y471 a2).bind fun t476 => ((graph_Uses.f k2 l0 a2).bind fun t479 => (some (decide ((t476.length : Int) ≤ (t479.length : Int)))))) = some r := by first | (rw [hy471]; with_reducible exact H) | (have H2_ := (Option.bind_some _ _).symm.trans H; rw [hy471]; with_reducible exact H2_) | (have H2_ := (Option.bind_some _ _).symm.trans H; with_reducible exact H2_) | with_reducible exact H | (rw [hy471]; exact H) | exact H
                     have Ny471 := Aside0.mk hy471
                     clear hy471
                     replace H := Option.bind_eq_some_iff.mp H
                     obtain ⟨t476, A770, H⟩ := H
                     replace H : ((graph_Uses.f k2 l0 a2).bind fun t479 => (some (decide ((t476.length : Int) ≤ (t479.length : Int))))) = some r := H
                     have A77 := Aside0.mk A770
                     clear A770
                     replace H := Option.bind_eq_some_iff.mp H
                     obtain ⟨t479, A780, H⟩ := H
                     replace H : (some (decide ((t476.length : Int) ≤ (t479.length : Int)))) = some r := H
                     have A78 := Aside0.mk A780
                     clear A780
                     obtain rfl := Option.some.inj H
                     obtain ⟨Ao79, co79, eo79⟩ := Kd.R_slice HO_9.out
                     subst eo79
                     go_wp2_with (first | ((with_reducible refine gate_dst (N := 50) rfl ?_); (try (refine gate_guard (by rfl) ?_; dsimp only)); refine Kd.N_lit k35 _ 35 ?hg (N' := 50) ?hd (xs := ([] : List (S35))) (inner := []) (ok := (fun k_ => (P0_ k_ ∨ w.heap.size ≤ k_) ∧ some k_ ≠ (.slice Ao79 t413.length co79 : Value).ownBlock ∧ some k_ ≠ (v417 : Value).ownBlock)) (okp := (fun k_ => (P0_ k_ ∨ w.heap.size ≤ k_) ∧ some k_ ≠ (.slice Ao79 t413.length co79 : Value).ownBlock ∧ some k_ ≠ (v417 : Value).ownBlock)) ?hr ?hp (fun _ hk => hk) ((show ∀ k_, wr.heap.size ≤ k_ → (fun k_ => (P0_ k_ ∨ w.heap.size ≤ k_) ∧ some k_ ≠ (.slice Ao79 t413.length co79 : Value).ownBlock ∧ some k_ ≠ (v417 : Value).ownBlock) k_ from fun k_ hk => ⟨(.inr (Nat.le_trans (below_size (bq0_ HB.out)) hk)), Kd.fresh' (Kd.R_lt (mvR_ HO_9.out)) k_ hk, Kd.fresh' (Kd.R_lt (mvR_ HO_10.out)) k_ hk⟩) _ (Nat.le_refl _)) (Below.refl _ _) (Nat.le_refl _) (by simp) ?_; (case hd => rfl); (case hg => rfl); (case hr => first | (go_simp; done) | (go_simp; rfl)); (case hp => exact (Reps.none _ _)); intro v422 w80 ho81 hb hg_ hnew_; clear hg_ hnew_; (first | rw [← Ny421.out] at ho81 | (simp only [Int.reduceToNat] at ho81; rw [← Ny421.out] at ho81)); have HO423 := Aside0.mk (Kd.N_lower ho81 (below_size (bq0_ HB.out))); replace HO_0 := Aside0.mk (Kd.V_elder' (mvV_ HO_0.out) (Kd.N_base ho81) hb); replace HO_9 := Aside0.mk (Kd.R_below (mvR_ HO_9.out) hb); replace HO_10 := Aside0.mk (Kd.R_below (mvR_ HO_10.out) hb); replace HB := Aside0.mk (below_step (bq0_ HB.out) hb); clear hb ho81) | ((with_reducible refine gate_builtin (b := .append) (xs := #[.tmp 50, .tmp 51]) rfl ?_); (try (refine gate_guard (by rfl) ?_; dsimp only)); at_builtin; refine Kd.N_append_rows k35 (w0 := w) w.heap.size rfl (.tmp 50) (.tmp 51) 22 35 (.agg #[(.int .i64 0), (.slice none 0 0), (.slice none 0 0)]) 56 rfl Try.underlying22 info35 rfl (by decide) (by omega) v422 y421 l0 _ _ _ (fun k_ => (P0_ k_ ∨ w.heap.size ≤ k_) ∧ some k_ ≠ (.slice Ao79 t413.length co79 : Value).ownBlock ∧ some k_ ≠ (v417 : Value).ownBlock) (fun k_ => ((fun k_ => (P0_ k_ ∨ w.heap.size ≤ k_) ∧ some k_ ≠ (.slice Ao79 t413.length co79 : Value).ownBlock ∧ some k_ ≠ (v417 : Value).ownBlock)) k_ ∧ some k_ ≠ (v422 : Value).ownBlock) rfl rfl ?aO ?aR (fun _ hk => hk) ?aF ?aB ?aS ?aL ?_; (case aR => exact (by skip; exact Kd.V_F (Kd.V_mono (ok' := (fun k_ => ((fun k_ => (P0_ k_ ∨ w.heap.size ≤ k_) ∧ some k_ ≠ (.slice Ao79 t413.length co79 : Value).ownBlock ∧ some k_ ≠ (v417 : Value).ownBlock)) k_ ∧ some k_ ≠ (v422 : Value).ownBlock)) (HO_0.out) (fun k_ hk => ⟨⟨hk.1.1, ⟨hk.1.2.1, hk.1.2.2⟩⟩, hk.2⟩)))); (case aB => exact (bq0_ HB.out)); (case aF => exact (fun k_ hk => ⟨(.inr (Nat.le_trans (below_size (bq0_ HB.out)) hk)), Kd.fresh' (Kd.R_lt (mvR_ HO_9.out)) k_ hk, Kd.fresh' (Kd.R_lt (mvR_ HO_10.out)) k_ hk⟩)); (case aO => exact (mvN_ HO423.out)); (case aS => exact (below_size (bq0_ HB.out))); (case aL => have := LMc29.out; omega); intro v425 w82 ho hb hg hat; rw [← Ny424.out] at ho; have HO426 := Aside0.mk (ho); replace HO_0 := Aside0.mk (Kd.V_afterv (ok := (fun k_ => (P0_ k_ ∨ w.heap.size ≤ k_) ∧ some k_ ≠ (.slice Ao79 t413.length co79 : Value).ownBlock ∧ some k_ ≠ (v417 : Value).ownBlock)) (mvV_ HO_0.out) hg hat); replace HO_9 := Aside0.mk (Kd.R_over' (mvR_ HO_9.out) (Kd.N_typed (mvN_ HO423.out)) (by decide) hg); replace HO_10 := Aside0.mk (Kd.R_over' (mvR_ HO_10.out) (Kd.N_typed (mvN_ HO423.out)) (by decide) hg); replace HB := Aside0.mk (hb); clear HO423 ho hb hg hat) | ((with_reducible refine gate_dst (N := 55) rfl ?_); (try (refine gate_guard (by rfl) ?_; dsimp only)); refine Kd.R_lit (Kd.int .i64) _ 3 ?hg (N := 55) ?hd (xs := ([wrap64 (a1)] : List Int)) (inner := [.int .i64 (wrap64 (a1))]) (ok := fun _ => True) (okp := fun _ => True) ?hr ?hp (fun _ hk => hk) trivial (Below.refl _ _) (Nat.le_refl _) (by simp) ?_; (case hd => rfl); (case hg => rfl); (case hr => first | (go_simp; done) | (go_simp; rfl)); (case hp => exact (Reps.one (show Kd.M (Kd.int .i64) _ _ _ (wrap64 (a1)) [.int .i64 (wrap64 (a1))] from rfl) (Reps.none _ _))); intro v428 w83 ho84 hb hg_ hnew_; clear hg_ hnew_; (first | rw [← Ny427.out] at ho84 | (simp only [Int.reduceToNat] at ho84; rw [← Ny427.out] at ho84)); have HO429 := Aside0.mk (Kd.R_lower (Kd.R_new' (Kd.R_new' (Kd.R_newM (M := fun k_ => (w.heap.size ≤ k_)) ho84 (below_size (bq0_ HB.out)) (fun k_ h_ => h_)) (Kd.R_lt (mvR_ HO_9.out))) (Kd.R_lt (mvR_ HO_10.out))) (below_size (bq0_ HB.out))); replace HO_0 := Aside0.mk (Kd.V_elder' (mvV_ HO_0.out) (Kd.R_base ho84) hb); replace HO_9 := Aside0.mk (Kd.R_elder' (mvR_ HO_9.out) (Kd.R_base ho84) hb); replace HO_10 := Aside0.mk (Kd.R_elder' (mvR_ HO_10.out) (Kd.R_base ho84) hb); replace HO426 := Aside0.mk (Kd.N_elder' (mvN_ HO426.out) (Kd.R_base ho84) hb); replace HB := Aside0.mk (below_step (bq0_ HB.out) hb); clear hb ho84; obtain ⟨Ao85, co85, eo85⟩ := Kd.R_slice HO429.out; subst eo85) | ((with_reducible refine gate_builtin (b := .append) (xs := #[.tmp 52, .tmp 57]) rfl ?_); (try (refine gate_guard (by rfl) ?_; dsimp only)); at_builtin; refine Kd.N_append k35 (w0 := w) w.heap.size rfl (.tmp 52) (.tmp 57) 22 35 (.agg #[(.int .i64 0), (.slice none 0 0), (.slice none 0 0)]) 56 rfl Try.underlying22 info35 rfl (by decide) (by omega) v425 y424 (⟨3, ([] : List Int), y427⟩ : S35) [.int .i64 3, .slice none 0 0, .slice Ao85 y427.length co85] (fun k_ => (P0_ k_ ∨ w.heap.size ≤ k_) ∧ some k_ ≠ (.slice Ao79 t413.length co79 : Value).ownBlock ∧ some k_ ≠ (v417 : Value).ownBlock) (fun k_ => ((fun k_ => (P0_ k_ ∨ w.heap.size ≤ k_) ∧ some k_ ≠ (.slice Ao79 t413.length co79 : Value).ownBlock ∧ some k_ ≠ (v417 : Value).ownBlock)) k_ ∧ some k_ ≠ (v425 : Value).ownBlock) rfl rfl ?aP (fun _ hk => hk) ?aF ?aO ?aB ?aS ?aL ?_; (case aP => exact (k35_mkF _ _ (⟨3, ([] : List Int), y427⟩ : S35) (Nat.le_refl _) (Kd.F_nil _ _ _) (Kd.R_reads' (Kd.R_mono (ok' := (fun k_ => ((fun k_ => (P0_ k_ ∨ w.heap.size ≤ k_) ∧ some k_ ≠ (.slice Ao79 t413.length co79 : Value).ownBlock ∧ some k_ ≠ (v417 : Value).ownBlock)) k_ ∧ some k_ ≠ (v425 : Value).ownBlock)) (Kd.R_apart' (HO429.out) (Kd.N_typed HO426.out) (by decide)) (fun k_ hk => ⟨⟨(.inr (hk.1.1.1.1)), ⟨hk.1.1.2, hk.1.2⟩⟩, hk.2⟩))).2.1 (Kd.R_F (Kd.R_mono (ok' := (fun k_ => ((fun k_ => (P0_ k_ ∨ w.heap.size ≤ k_) ∧ some k_ ≠ (.slice Ao79 t413.length co79 : Value).ownBlock ∧ some k_ ≠ (v417 : Value).ownBlock)) k_ ∧ some k_ ≠ (v425 : Value).ownBlock)) (Kd.R_apart' (HO429.out) (Kd.N_typed HO426.out) (by decide)) (fun k_ hk => ⟨⟨(.inr (hk.1.1.1.1)), ⟨hk.1.1.2, hk.1.2⟩⟩, hk.2⟩))))); (case aB => exact (bq0_ HB.out)); (case aF => exact (fun k_ hk => ⟨(.inr (Nat.le_trans (below_size (bq0_ HB.out)) hk)), Kd.fresh' (Kd.R_lt (mvR_ HO_9.out)) k_ hk, Kd.fresh' (Kd.R_lt (mvR_ HO_10.out)) k_ hk⟩)); (case aO => exact (by (with_reducible repeat (first | apply Kd.N_alloc | apply Kd.N_drewN | apply Kd.N_drew)); exact Kd.N_mono HO426.out (fun _ hk => ⟨hk.1.1, ⟨hk.1.2.1, hk.1.2.2⟩⟩))); (case aS => exact (below_size (bq0_ HB.out))); (case aL => have := LMc30.out; omega); intro v431 w86 ho hb hg hat; rw [← Ny430.out] at ho; have HO432 := Aside0.mk (ho); replace HO_0 := Aside0.mk (Kd.V_afterv (ok := (fun k_ => (P0_ k_ ∨ w.heap.size ≤ k_) ∧ some k_ ≠ (.slice Ao79 t413.length co79 : Value).ownBlock ∧ some k_ ≠ (v417 : Value).ownBlock ∧ some k_ ≠ (.slice Ao85 y427.length co85 : Value).ownBlock)) (by (with_reducible repeat (first | apply Kd.V_alloc | apply Kd.V_drewN | apply Kd.V_drew)); exact Kd.V_mono HO_0.out (fun _ hk => ⟨⟨hk.1.1.1, ⟨hk.1.1.2.1, ⟨hk.1.1.2.2, hk.2⟩⟩⟩, hk.1.2⟩)) hg hat); replace HO_9 := Aside0.mk (Kd.R_over' (mvR_ HO_9.out) (Kd.N_typed (mvN_ HO426.out)) (by decide) hg); replace HO_10 := Aside0.mk (Kd.R_over' (mvR_ HO_10.out) (Kd.N_typed (mvN_ HO426.out)) (by decide) hg); replace HB := Aside0.mk (hb); clear HO426 HO429 ho hb hg hat; obtain ⟨Ao87, co87, eo87⟩ := Kd.N_slice HO432.out; subst eo87) | ((with_reducible refine gate_callee (f := 13) rfl ?_); refine gL_ (some 60) Try.func13 #[.slice Ao87 y430.length co87] ?_; (with_reducible refine (graph_Check.calls _ _ y430 t433 _ ?side1 ?side2 A31.out).mono ?_); (case side1 => exact mvC_ ((Kd.N_reads' HO432.out).2.2)); (case side2 => exact (Kd.N_reads' HO432.out).2.1); rintro e w88 ⟨rfl, hb⟩; refine ⟨_, rfl, ?_⟩; replace HO_0 := Aside0.mk (Kd.V_below (mvV_ HO_0.out) hb); replace HO_9 := Aside0.mk (Kd.R_below (mvR_ HO_9.out) hb); replace HO_10 := Aside0.mk (Kd.R_below (mvR_ HO_10.out) hb); replace HO432 := Aside0.mk (Kd.N_below (mvN_ HO432.out) hb); replace HB := Aside0.mk (below_step (bq0_ HB.out) hb); (try clear hb)) | (go_at_call 18; (with_reducible refine (graph_Params.calls k2 _ _ y430 t451 _ ?side1 ?side2 A60.out).mono ?_); (case side1 => exact mvC_ ((Kd.N_reads' HO432.out).2.2)); (case side2 => exact (Kd.N_reads' HO432.out).2.1); rintro e w89 ⟨v452, rfl, ho0, hb⟩; have HO453 := Aside0.mk (Kd.R_lower (Kd.R_new' (Kd.R_new' (Kd.R_newM (M := fun k_ => (w.heap.size ≤ k_)) ho0 (below_size (bq0_ HB.out)) (fun k_ h_ => h_)) (Kd.R_lt (mvR_ HO_9.out))) (Kd.R_lt (mvR_ HO_10.out))) (below_size (bq0_ HB.out))); replace HO_0 := Aside0.mk (Kd.V_elder' (mvV_ HO_0.out) (Kd.R_base ho0) hb); replace HO_9 := Aside0.mk (Kd.R_elder' (mvR_ HO_9.out) (Kd.R_base ho0) hb); replace HO_10 := Aside0.mk (Kd.R_elder' (mvR_ HO_10.out) (Kd.R_base ho0) hb); replace HO432 := Aside0.mk (Kd.N_elder' (mvN_ HO432.out) (Kd.R_base ho0) hb); replace HB := Aside0.mk (below_step (bq0_ HB.out) hb); (try clear hb); (try clear ho0); obtain ⟨Ao90, co90, eo90⟩ := Kd.R_slice HO453.out; subst eo90; obtain ⟨Ao91, co91, eo91⟩ := Kd.R_slice HO_10.out; subst eo91) | (go_at_call 17; (with_reducible refine (fullerref02_Same.calls k2 _ _ t451 _ _ t416 true _ ?side1 ?side2 ?side3 ?side4 A61.out).mono ?_); (case side1 => exact mvC_ ((Kd.R_reads' HO453.out).2.2)); (case side2 => exact (Kd.R_reads' HO453.out).2.1); (case side3 => exact mvC_ ((Kd.R_reads' HO_10.out).2.2)); (case side4 => exact (Kd.R_reads' HO_10.out).2.1); rintro e w' ⟨rfl, ⟨nd, rfl⟩⟩) | (go_at_call 20; (with_reducible refine (graph_Uses.calls k2 _ _ y430 a2 t455 _ ?side1 ?side2 A63.out).mono ?_); (case side1 => exact mvC_ ((Kd.N_reads' HO432.out).2.2)); (case side2 => exact (Kd.N_reads' HO432.out).2.1); rintro e w92 ⟨v456, rfl, ho0, hb⟩; have HO457 := Aside0.mk (Kd.R_lower (Kd.R_new' (Kd.R_new' (Kd.R_new' (Kd.R_newM (M := fun k_ => (w.heap.size ≤ k_)) ho0 (below_size (bq0_ HB.out)) (fun k_ h_ => h_)) (Kd.R_lt (mvR_ HO_9.out))) (Kd.R_lt (mvR_ HO_10.out))) (Kd.R_lt (mvR_ HO453.out))) (below_size (bq0_ HB.out))); replace HO_0 := Aside0.mk (Kd.V_elder' (mvV_ HO_0.out) (Kd.R_base ho0) hb); replace HO_9 := Aside0.mk (Kd.R_elder' (mvR_ HO_9.out) (Kd.R_base ho0) hb); replace HO_10 := Aside0.mk (Kd.R_elder' (mvR_ HO_10.out) (Kd.R_base ho0) hb); replace HO432 := Aside0.mk (Kd.N_elder' (mvN_ HO432.out) (Kd.R_base ho0) hb); replace HO453 := Aside0.mk (Kd.R_elder' (mvR_ HO453.out) (Kd.R_base ho0) hb); replace HB := Aside0.mk (below_step (bq0_ HB.out) hb); (try clear hb); (try clear ho0)) | (go_at_call 20; (with_reducible refine (graph_Uses.calls k2 _ _ l0 a2 t458 _ ?side1 ?side2 A64.out).mono ?_); (case side1 => exact mvC_ ((Kd.V_reads' HO_0.out).2.2)); (case side2 => exact (Kd.V_reads' HO_0.out).2.1); rintro e w93 ⟨v459, rfl, ho0, hb⟩; have HO460 := Aside0.mk (Kd.R_lower (Kd.R_new' (Kd.R_new' (Kd.R_new' (Kd.R_new' (Kd.R_newM (M := fun k_ => (w.heap.size ≤ k_)) ho0 (below_size (bq0_ HB.out)) (fun k_ h_ => h_)) (Kd.R_lt (mvR_ HO_9.out))) (Kd.R_lt (mvR_ HO_10.out))) (Kd.R_lt (mvR_ HO453.out))) (Kd.R_lt (mvR_ HO457.out))) (below_size (bq0_ HB.out))); replace HO_0 := Aside0.mk (Kd.V_elder' (mvV_ HO_0.out) (Kd.R_base ho0) hb); replace HO_9 := Aside0.mk (Kd.R_elder' (mvR_ HO_9.out) (Kd.R_base ho0) hb); replace HO_10 := Aside0.mk (Kd.R_elder' (mvR_ HO_10.out) (Kd.R_base ho0) hb); replace HO432 := Aside0.mk (Kd.N_elder' (mvN_ HO432.out) (Kd.R_base ho0) hb); replace HO453 := Aside0.mk (Kd.R_elder' (mvR_ HO453.out) (Kd.R_base ho0) hb); replace HO457 := Aside0.mk (Kd.R_elder' (mvR_ HO457.out) (Kd.R_base ho0) hb); replace HB := Aside0.mk (below_step (bq0_ HB.out) hb); (try clear hb); (try clear ho0); obtain ⟨Ao94, co94, eo94⟩ := Kd.R_slice HO457.out; subst eo94; obtain ⟨Ao95, co95, eo95⟩ := Kd.R_slice HO460.out; subst eo95) | (go_at_call 17; (with_reducible refine (fullerref02_Same.calls k2 _ _ t455 _ _ t458 true _ ?side1 ?side2 ?side3 ?side4 A65.out).mono ?_); (case side1 => exact mvC_ ((Kd.R_reads' HO457.out).2.2)); (case side2 => exact (Kd.R_reads' HO457.out).2.1); (case side3 => exact mvC_ ((Kd.R_reads' HO460.out).2.2)); (case side4 => exact (Kd.R_reads' HO460.out).2.1); rintro e w' ⟨rfl, ⟨nd, rfl⟩⟩) | (go_at_call 22; (with_reducible refine (graph_Live.calls _ _ y430 t462 _ ?side1 ?side2 A67.out).mono ?_); (case side1 => exact mvC_ ((Kd.N_reads' HO432.out).2.2)); (case side2 => exact (Kd.N_reads' HO432.out).2.1); rintro e w96 ⟨v463, rfl, ho0, hb⟩; have HO464 := Aside0.mk (Kd.R_lower (Kd.R_new' (Kd.R_new' (Kd.R_new' (Kd.R_new' (Kd.R_new' (Kd.R_newM (M := fun k_ => (w.heap.size ≤ k_)) ho0 (below_size (bq0_ HB.out)) (fun k_ h_ => h_)) (Kd.R_lt (mvR_ HO_9.out))) (Kd.R_lt (mvR_ HO_10.out))) (Kd.R_lt (mvR_ HO453.out))) (Kd.R_lt (mvR_ HO457.out))) (Kd.R_lt (mvR_ HO460.out))) (below_size (bq0_ HB.out))); replace HO_0 := Aside0.mk (Kd.V_elder' (mvV_ HO_0.out) (Kd.R_base ho0) hb); replace HO_9 := Aside0.mk (Kd.R_elder' (mvR_ HO_9.out) (Kd.R_base ho0) hb); replace HO_10 := Aside0.mk (Kd.R_elder' (mvR_ HO_10.out) (Kd.R_base ho0) hb); replace HO432 := Aside0.mk (Kd.N_elder' (mvN_ HO432.out) (Kd.R_base ho0) hb); replace HO453 := Aside0.mk (Kd.R_elder' (mvR_ HO453.out) (Kd.R_base ho0) hb); replace HO457 := Aside0.mk (Kd.R_elder' (mvR_ HO457.out) (Kd.R_base ho0) hb); replace HO460 := Aside0.mk (Kd.R_elder' (mvR_ HO460.out) (Kd.R_base ho0) hb); replace HB := Aside0.mk (below_step (bq0_ HB.out) hb); (try clear hb); (try clear ho0); obtain ⟨Ao97, co97, eo97⟩ := Kd.R_slice HO464.out; subst eo97; have q98 : (ji13 : Int) ≤ ((l0.length : Int) : Int) := od_; obtain ⟨i098, hi098, _, hsz98, _⟩ := info_parts info35; have hroom98 : l0.length ≤ c0 := (Kd.V_reads' HO_0.out).2.1; have hC98 : Kd.F k35 _ _ A0 l0.length l0 := (Kd.V_at (base := w.heap.size) HO_0.out).2.2; (try clear hcut18); (try clear hcut53); (try clear hcut55); have hcut98 := cut_to (P := Try.prog) 22 35 .i64 Try.underlying22 hi098 A0 l0.length c0 ji13 od_ q98 hroom98; have hr98 := Kd.F_take (m := (ji13 : Int).toNat) hC98 (by omega); have hy98 : y465.length = (ji13 : Int).toNat := (by rw [Ny465.out, List.length_take]; omega); rw [← Ny465.out] at hr98; rw [← hy98] at hcut98; have HO469 := Aside0.mk (show Kd.V k35 35 _ w.heap.size _ (.slice A0 y465.length c0) y465 from Kd.V_mk (by omega) hr98); have HC469 := Aside0.mk (show y465.length ≤ c0 from by omega); clear hr98 hC98 hroom98 hi098 hsz98; have KY98 := Aside0.mk hy98; clear hy98; replace q98 := eq_true q98) | (go_at_call 13; (with_reducible refine (graph_Check.calls _ _ y465 true _ ?side1 ?side2 A71.out).mono ?_); (case side1 => exact mvC_ ((Kd.V_reads' HO469.out).2.2)); (case side2 => exact (Kd.V_reads' HO469.out).2.1); rintro e w99 ⟨rfl, hb⟩; replace HO_0 := Aside0.mk (Kd.V_below (mvV_ HO_0.out) hb); replace HO_9 := Aside0.mk (Kd.R_below (mvR_ HO_9.out) hb); replace HO_10 := Aside0.mk (Kd.R_below (mvR_ HO_10.out) hb); replace HO432 := Aside0.mk (Kd.N_below (mvN_ HO432.out) hb); replace HO453 := Aside0.mk (Kd.R_below (mvR_ HO453.out) hb); replace HO457 := Aside0.mk (Kd.R_below (mvR_ HO457.out) hb); replace HO460 := Aside0.mk (Kd.R_below (mvR_ HO460.out) hb); replace HO464 := Aside0.mk (Kd.R_below (mvR_ HO464.out) hb); replace HO469 := Aside0.mk (Kd.V_below (mvV_ HO469.out) hb); replace HB := Aside0.mk (below_step (bq0_ HB.out) hb); (try clear hb); have q100 : (ji13 : Int) ≤ ((l0.length : Int) : Int) := od_; obtain ⟨i0100, hi0100, _, hsz100, _⟩ := info_parts info35; have hroom100 : l0.length ≤ c0 := (Kd.V_reads' HO_0.out).2.1; have hC100 : Kd.F k35 _ _ A0 l0.length l0 := (Kd.V_at (base := w.heap.size) HO_0.out).2.2; (try clear hcut18); (try clear hcut53); (try clear hcut55); (try clear hcut98); have hcut100 := cut_to (P := Try.prog) 22 35 .i64 Try.underlying22 hi0100 A0 l0.length c0 ji13 od_ q100 hroom100; have hr100 := Kd.F_take (m := (ji13 : Int).toNat) hC100 (by omega); have hy100 : y471.length = (ji13 : Int).toNat := (by rw [Ny471.out, List.length_take]; omega); rw [← Ny471.out] at hr100; rw [← hy100] at hcut100; have HO475 := Aside0.mk (show Kd.V k35 35 _ w.heap.size _ (.slice A0 y471.length c0) y471 from Kd.V_mk (by omega) hr100); have HC475 := Aside0.mk (show y471.length ≤ c0 from by omega); clear hr100 hC100 hroom100 hi0100 hsz100; have KY100 := Aside0.mk hy100; clear hy100; replace q100 := eq_true q100) | (go_at_call 20; (with_reducible refine (graph_Uses.calls k2 _ _ y471 a2 t476 _ ?side1 ?side2 A77.out).mono ?_); (case side1 => exact mvC_ ((Kd.V_reads' HO475.out).2.2)); (case side2 => exact (Kd.V_reads' HO475.out).2.1); rintro e w101 ⟨v477, rfl, ho0, hb⟩; have HO478 := Aside0.mk (Kd.R_lower (Kd.R_new' (Kd.R_new' (Kd.R_new' (Kd.R_new' (Kd.R_new' (Kd.R_new' (Kd.R_newM (M := fun k_ => (w.heap.size ≤ k_)) ho0 (below_size (bq0_ HB.out)) (fun k_ h_ => h_)) (Kd.R_lt (mvR_ HO_9.out))) (Kd.R_lt (mvR_ HO_10.out))) (Kd.R_lt (mvR_ HO453.out))) (Kd.R_lt (mvR_ HO457.out))) (Kd.R_lt (mvR_ HO460.out))) (Kd.R_lt (mvR_ HO464.out))) (below_size (bq0_ HB.out))); replace HO_0 := Aside0.mk (Kd.V_elder' (mvV_ HO_0.out) (Kd.R_base ho0) hb); replace HO_9 := Aside0.mk (Kd.R_elder' (mvR_ HO_9.out) (Kd.R_base ho0) hb); replace HO_10 := Aside0.mk (Kd.R_elder' (mvR_ HO_10.out) (Kd.R_base ho0) hb); replace HO432 := Aside0.mk (Kd.N_elder' (mvN_ HO432.out) (Kd.R_base ho0) hb); replace HO453 := Aside0.mk (Kd.R_elder' (mvR_ HO453.out) (Kd.R_base ho0) hb); replace HO457 := Aside0.mk (Kd.R_elder' (mvR_ HO457.out) (Kd.R_base ho0) hb); replace HO460 := Aside0.mk (Kd.R_elder' (mvR_ HO460.out) (Kd.R_base ho0) hb); replace HO464 := Aside0.mk (Kd.R_elder' (mvR_ HO464.out) (Kd.R_base ho0) hb); replace HO469 := Aside0.mk (Kd.V_elder' (mvV_ HO469.out) (Kd.R_base ho0) hb); replace HO475 := Aside0.mk (Kd.V_elder' (mvV_ HO475.out) (Kd.R_base ho0) hb); replace HB := Aside0.mk (below_step (bq0_ HB.out) hb); (try clear hb); (try clear ho0); obtain ⟨Ao102, co102, eo102⟩ := Kd.R_slice HO478.out; subst eo102) | (go_at_call 20; (with_reducible refine (graph_Uses.calls k2 _ _ l0 a2 t479 _ ?side1 ?side2 A78.out).mono ?_); (case side1 => exact mvC_ ((Kd.V_reads' HO_0.out).2.2)); (case side2 => exact (Kd.V_reads' HO_0.out).2.1); rintro e w103 ⟨v480, rfl, ho0, hb⟩; have HO481 := Aside0.mk (Kd.R_lower (Kd.R_new' (Kd.R_new' (Kd.R_new' (Kd.R_new' (Kd.R_new' (Kd.R_new' (Kd.R_new' (Kd.R_newM (M := fun k_ => (w.heap.size ≤ k_)) ho0 (below_size (bq0_ HB.out)) (fun k_ h_ => h_)) (Kd.R_lt (mvR_ HO_9.out))) (Kd.R_lt (mvR_ HO_10.out))) (Kd.R_lt (mvR_ HO453.out))) (Kd.R_lt (mvR_ HO457.out))) (Kd.R_lt (mvR_ HO460.out))) (Kd.R_lt (mvR_ HO464.out))) (Kd.R_lt (mvR_ HO478.out))) (below_size (bq0_ HB.out))); replace HO_0 := Aside0.mk (Kd.V_elder' (mvV_ HO_0.out) (Kd.R_base ho0) hb); replace HO_9 := Aside0.mk (Kd.R_elder' (mvR_ HO_9.out) (Kd.R_base ho0) hb); replace HO_10 := Aside0.mk (Kd.R_elder' (mvR_ HO_10.out) (Kd.R_base ho0) hb); replace HO432 := Aside0.mk (Kd.N_elder' (mvN_ HO432.out) (Kd.R_base ho0) hb); replace HO453 := Aside0.mk (Kd.R_elder' (mvR_ HO453.out) (Kd.R_base ho0) hb); replace HO457 := Aside0.mk (Kd.R_elder' (mvR_ HO457.out) (Kd.R_base ho0) hb); replace HO460 := Aside0.mk (Kd.R_elder' (mvR_ HO460.out) (Kd.R_base ho0) hb); replace HO464 := Aside0.mk (Kd.R_elder' (mvR_ HO464.out) (Kd.R_base ho0) hb); replace HO469 := Aside0.mk (Kd.V_elder' (mvV_ HO469.out) (Kd.R_base ho0) hb); replace HO475 := Aside0.mk (Kd.V_elder' (mvV_ HO475.out) (Kd.R_base ho0) hb); replace HO478 := Aside0.mk (Kd.R_elder' (mvR_ HO478.out) (Kd.R_base ho0) hb); replace HB := Aside0.mk (below_step (bq0_ HB.out) hb); (try clear hb); (try clear ho0); obtain ⟨Ao104, co104, eo104⟩ := Kd.R_slice HO481.out; subst eo104))
                     go_ret
                     exact ⟨by first | rfl | (simp [errW_none, errW_some] <;> rfl) | (simp only [← hji13]; first | rfl | (simp [errW_none, errW_some] <;> rfl)) | (simp [*, errW_none, errW_some] <;> rfl), bq0_ HB.out⟩
                    ·rw [if_neg c74] at H
                     exact absurd H (by simp)
                   ·rw [if_neg c73] at H
                    exact absurd H (by simp)
                  ·replace c72 := Bool.eq_false_iff.mpr c72
                   subst c72
                   have H1 : (none) = some r := by rw [if_neg (show ¬ (false = true) by decide)] at H; exact H
                   clear H
                   have H := H1
                   clear H1
                   exact absurd H (by simp)
                 ·rw [if_neg c70] at H
                  exact absurd H (by simp)
                ·rw [if_neg c69] at H
                 exact absurd H (by simp)
               ·replace c68 := Bool.eq_false_iff.mpr c68
                subst c68
                have H1 : (none) = some r := by rw [if_neg (show ¬ (false = true) by decide)] at H; exact H
                clear H
                have H := H1
                clear H1
                exact absurd H (by simp)
              ·replace c66 := Bool.eq_false_iff.mpr c66
               subst c66
               have H1 : (none) = some r := by rw [if_neg (show ¬ (false = true) by decide)] at H; exact H
               clear H
               have H := H1
               clear H1
               exact absurd H (by simp)
             ·replace c62 := Bool.eq_false_iff.mpr c62
              subst c62
              have H1 : (none) = some r := by rw [if_neg (show ¬ (false = true) by decide)] at H; exact H
              clear H
              have H := H1
              clear H1
              exact absurd H (by simp)
           ·rw [if_neg c30] at H
            exact absurd H (by simp)
          ·rw [if_neg c29] at H
           exact absurd H (by simp)
      ·rw [if_neg c15] at H
       exact absurd H (by simp)
     ·rw [if_neg c14] at H
      exact absurd H (by simp)

/-- THE ONE PURE STATEMENT of fullerlaw10_GraphCuts: yours. -/
def fullerlaw10_GraphCuts.Pure : Prop := ∀ (l0 : List (S35)) (a1 : Int) (a2 : Int), (l0.length * 56 ≤ 140737488351232 ∧ ∀ x_ ∈ l0, OK35 x_) → ((Lit.int .u8 a1).wf = true) → ((Lit.int .i64 a2).wf = true) → ∃ k, fullerlaw10_GraphCuts.f k l0 a1 a2 = some true
theorem fullerlaw10_GraphCuts.walk (P : fullerlaw10_GraphCuts.Pure) (P0_ : Nat → Prop) (A0 : Option Addr) (c0 : Nat) (l0 : List (S35)) (a1 : Int) (a2 : Int) (w : World) (hr0 : Kd.C k35 w A0 l0.length l0) (hc0 : l0.length ≤ c0) (hg0 : l0.length * 56 ≤ 140737488351232 ∧ ∀ x_ ∈ l0, OK35 x_) (hg1 : (Lit.int .u8 a1).wf = true) (hg2 : (Lit.int .i64 a2).wf = true) :
  Calls Try.prog 4 #[.slice A0 l0.length c0, .int .u8 a1, .int .i64 a2] w fun e w' => e = .returned (.bool true) ∧ Below w.heap.size w w' := by
 obtain ⟨k, h⟩ := P l0 a1 a2 hg0 hg1 hg2
 refine (fullerlaw10_GraphCuts.calls k (fun k_ => k_ < w.heap.size) _ _ l0 a1 a2 true w (Kd.V_mk hc0 (Kd.C_F k35_heap hr0)) h).mono ?_
 rintro e w' ⟨rfl, hd⟩
 exact ⟨rfl, hd⟩

end Go.Proofs.Ytklnbfdoklcmfaa.A
