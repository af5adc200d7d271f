/- Lean functions that answer as the Go functions do, and the proofs that they do; no conditions. Written by this session's own driver: a scratch copy of the kit's print with the session's additions (wip/xprint). -/
import Derived.Test.YtdjlpbekoggmiaaAx0
import Derived.Test.YtdjlpbekoggmiaaAx4
import Derived.Test.YtdjlpbekoggmiaaAx7
import Derived.Test.YtdjlpbekoggmiaaAx9
import Derived.Test.YtdjlpbekoggmiaaAx11
import Derived.Test.YtdjlpbekoggmiaaAx12
import Derived.Test.YtdjlpbekoggmiaaAx18
import Derived.Test.YtdjlpbekoggmiaaAx19
namespace Go.Proofs.Ytdjlpbekoggmiaa.A
open Go.RowKit Go.Proofs.YtdjlpbekoggmiaaW.PrintWords Go.Proofs.YtdjlpbekoggmiaaW.PrintLast Go.Proofs.YtdjlpbekoggmiaaW.PrintMore
attribute [local go_sem] max2_int min2_int max_two min_two max_three min_three max_four min_four   -- for this text's walks alone
set_option linter.unusedVariables false
set_option linter.unusedSimpArgs false

/-! ### fullerlaw17_ChainTrims: function 5 -/
mutual
def fullerlaw17_ChainTrims.j0 : Nat → List (S41) → Int → Int → Bool → Bool → Option (Bool)
 | 0, _, _, _, _, _ => none
 | k + 1, x0, x1, x2, x7, x23 => if x23 = true then (some x7) else ((chain_Trim.f k x0 x1).bind fun t363 => ((chain_Read.f k x0 (mx x2 x1)).bind fun bt366 => ((chain_Read.f k t363 (mx x2 x1)).bind fun bt374 => (fullerlaw17_ChainTrims.l0 k x0 x1 x2 x7 t363 bt366.2.2 bt374.2.2 0 0 bt366.1 bt366.2.1 bt374.1 bt374.2.1))))
def fullerlaw17_ChainTrims.l0 : Nat → List (S41) → Int → Int → Bool → List (S41) → Bool → Bool → Int → Int → List Int → List Int → List Int → List Int → Option (Bool)
 | 0, _, _, _, _, _, _, _, _, _, _, _, _, _ => none
 | k + 1, x0, x1, x2, x7, x8, x10, x12, x13, x14, x374000, x374001, x382000, x382001 => if x14 < (x8.length : Int) then (if 0 ≤ x14 then (if ((rd_T41 x8 x14).f0) ≤ x1 then (fullerlaw17_ChainTrims.l0 k x0 x1 x2 x7 x8 x10 x12 (wrap64 (x13 + 1)) (wrap64 (x14 + 1)) x374000 x374001 x382000 x382001) else (fullerlaw17_ChainTrims.l0 k x0 x1 x2 x7 x8 x10 x12 x13 (wrap64 (x14 + 1)) x374000 x374001 x382000 x382001)) else (none)) else (if x7 = true then (if (x10 == x12) = true then ((fullerref03_Same.f k x374000 x374001 x382000 x382001).bind fun t383 => (if t383 = true then (if x13 ≤ 1 then ((chain_Trim.f k x8 x1).bind fun t384 => ((fullerref17_Same.f k t384 x8).bind fun t387 => (if t387 = true then ((chain_Check.f k x8).bind fun t388 => (if t388 = true then (if (x8.length : Int) ≤ (x0.length : Int) then ((chain_Newer.f k x8 x2).bind fun t389 => ((chain_Newer.f k x0 x2).bind fun t390 => (some (t389 == t390)))) else (some false)) else (some false))) else (some false)))) else (some false)) else (some false))) else (some false)) else (some false))
end
def fullerlaw17_ChainTrims.f (k : Nat) (l0 : List (S41)) (a1 : Int) (a2 : Int) : Option (Bool) := (fullerlaw17_awake.f k).bind fun t360 => ((fullerref17_Few.f k l0).bind fun t361 => (if t361 = true then ((chain_Check.f k l0).bind fun t362 => (fullerlaw17_ChainTrims.j0 k l0 a1 a2 t360 (!t362))) else (fullerlaw17_ChainTrims.j0 k l0 a1 a2 t360 true)))
theorem fullerlaw17_ChainTrims.mono_l : ∀ k, (∀ y0 y1 y2 y3 y4, LeO (fullerlaw17_ChainTrims.j0 k y0 y1 y2 y3 y4) (fullerlaw17_ChainTrims.j0 (k + 1) y0 y1 y2 y3 y4)) ∧ (∀ y0 y1 y2 y3 y4 y5 y6 y7 y8 y9 y10 y11 y12, LeO (fullerlaw17_ChainTrims.l0 k y0 y1 y2 y3 y4 y5 y6 y7 y8 y9 y10 y11 y12) (fullerlaw17_ChainTrims.l0 (k + 1) y0 y1 y2 y3 y4 y5 y6 y7 y8 y9 y10 y11 y12))
 | 0 => ⟨fun _ _ _ _ _ r h => by simp [fullerlaw17_ChainTrims.j0] at h, fun _ _ _ _ _ _ _ _ _ _ _ _ _ r h => by simp [fullerlaw17_ChainTrims.l0] at h⟩
 | k + 1 => by
  obtain ⟨ih0, ih1⟩ := fullerlaw17_ChainTrims.mono_l k
  refine ⟨?_, ?_⟩
  ·intro y0 y1 y2 y3 y4
   unfold fullerlaw17_ChainTrims.j0
   repeat' first
   | (with_reducible exact ih0 _ _ _ _ _)
   | (with_reducible exact ih1 _ _ _ _ _ _ _ _ _ _ _ _ _)
   | (with_reducible exact chain_Check.mono _ _)
   | (with_reducible exact chain_Newer.mono _ _ _)
   | (with_reducible exact chain_Read.mono _ _ _)
   | (with_reducible exact chain_Trim.mono _ _ _)
   | (with_reducible exact fullerlaw17_awake.mono _)
   | (with_reducible exact fullerref03_Same.mono _ _ _ _ _)
   | (with_reducible exact fullerref17_Few.mono _ _)
   | (with_reducible exact fullerref17_Same.mono _ _ _)
   | (with_reducible exact LeO.refl _)
   | (with_reducible exact LeO.none _)
   | (with_reducible refine LeO.ite ?_ ?_)
   | (with_reducible refine LeO.bind ?_ (fun _ => ?_))
   | exact ih0 _ _ _ _ _
   | exact ih1 _ _ _ _ _ _ _ _ _ _ _ _ _
   | exact chain_Check.mono _ _
   | exact chain_Newer.mono _ _ _
   | exact chain_Read.mono _ _ _
   | exact chain_Trim.mono _ _ _
   | exact fullerlaw17_awake.mono _
   | exact fullerref03_Same.mono _ _ _ _ _
   | exact fullerref17_Few.mono _ _
   | exact fullerref17_Same.mono _ _ _
   | exact LeO.none _
   | refine LeO.ite ?_ ?_
   | refine LeO.bind ?_ (fun _ => ?_)
  ·intro y0 y1 y2 y3 y4 y5 y6 y7 y8 y9 y10 y11 y12
   unfold fullerlaw17_ChainTrims.l0
   repeat' first
   | (with_reducible exact ih0 _ _ _ _ _)
   | (with_reducible exact ih1 _ _ _ _ _ _ _ _ _ _ _ _ _)
   | (with_reducible exact chain_Check.mono _ _)
   | (with_reducible exact chain_Newer.mono _ _ _)
   | (with_reducible exact chain_Read.mono _ _ _)
   | (with_reducible exact chain_Trim.mono _ _ _)
   | (with_reducible exact fullerlaw17_awake.mono _)
   | (with_reducible exact fullerref03_Same.mono _ _ _ _ _)
   | (with_reducible exact fullerref17_Few.mono _ _)
   | (with_reducible exact fullerref17_Same.mono _ _ _)
   | (with_reducible exact LeO.refl _)
   | (with_reducible exact LeO.none _)
   | (with_reducible refine LeO.ite ?_ ?_)
   | (with_reducible refine LeO.bind ?_ (fun _ => ?_))
   | exact ih0 _ _ _ _ _
   | exact ih1 _ _ _ _ _ _ _ _ _ _ _ _ _
   | exact chain_Check.mono _ _
   | exact chain_Newer.mono _ _ _
   | exact chain_Read.mono _ _ _
   | exact chain_Trim.mono _ _ _
   | exact fullerlaw17_awake.mono _
   | exact fullerref03_Same.mono _ _ _ _ _
   | exact fullerref17_Few.mono _ _
   | exact fullerref17_Same.mono _ _ _
   | exact LeO.none _
   | refine LeO.ite ?_ ?_
   | refine LeO.bind ?_ (fun _ => ?_)
theorem fullerlaw17_ChainTrims.mono : ∀ a0 a1 a2 k, LeO (fullerlaw17_ChainTrims.f k a0 a1 a2) (fullerlaw17_ChainTrims.f (k + 1) a0 a1 a2) := by
 intro a0 a1 a2 k
 obtain ⟨ih0, ih1⟩ := fullerlaw17_ChainTrims.mono_l k
 unfold fullerlaw17_ChainTrims.f
 repeat' first
   | (with_reducible exact ih0 _ _ _ _ _)
   | (with_reducible exact ih1 _ _ _ _ _ _ _ _ _ _ _ _ _)
   | (with_reducible exact chain_Check.mono _ _)
   | (with_reducible exact chain_Newer.mono _ _ _)
   | (with_reducible exact chain_Read.mono _ _ _)
   | (with_reducible exact chain_Trim.mono _ _ _)
   | (with_reducible exact fullerlaw17_awake.mono _)
   | (with_reducible exact fullerref03_Same.mono _ _ _ _ _)
   | (with_reducible exact fullerref17_Few.mono _ _)
   | (with_reducible exact fullerref17_Same.mono _ _ _)
   | (with_reducible exact LeO.refl _)
   | (with_reducible exact LeO.none _)
   | (with_reducible refine LeO.ite ?_ ?_)
   | (with_reducible refine LeO.bind ?_ (fun _ => ?_))
   | exact ih0 _ _ _ _ _
   | exact ih1 _ _ _ _ _ _ _ _ _ _ _ _ _
   | exact chain_Check.mono _ _
   | exact chain_Newer.mono _ _ _
   | exact chain_Read.mono _ _ _
   | exact chain_Trim.mono _ _ _
   | exact fullerlaw17_awake.mono _
   | exact fullerref03_Same.mono _ _ _ _ _
   | exact fullerref17_Few.mono _ _
   | exact fullerref17_Same.mono _ _ _
   | exact LeO.none _
   | refine LeO.ite ?_ ?_
   | refine LeO.bind ?_ (fun _ => ?_)
set_option maxHeartbeats 8000000 in
set_option maxRecDepth 100000 in
theorem fullerlaw17_ChainTrims.calls (k : Nat) (A0 : Option Addr) (c0 : Nat) (l0 : List (S41)) (a1 : Int) (a2 : Int) (r : Bool) (w : World) (hr0 : Kd.C k41 w A0 l0.length l0) (hc0 : l0.length ≤ c0) (h : fullerlaw17_ChainTrims.f k l0 a1 a2 = some r) :
  Calls Try.prog 5 #[.slice A0 l0.length c0, .int .i64 a1, .int .i64 a2] w fun e w' => e = .returned (.bool r) ∧ Below w.heap.size w w' := by
 have hu25 := Try.underlying25
 have HR0 := Aside0.mk hr0
 have HC0 := Aside0.mk hc0
 clear hr0 hc0
 have HB := Aside0.mk (Below.refl w.heap.size w)
 have H : ((fullerlaw17_awake.f k).bind fun t360 => ((fullerref17_Few.f k l0).bind fun t361 => (if t361 = true then ((chain_Check.f k l0).bind fun t362 => (fullerlaw17_ChainTrims.j0 k l0 a1 a2 t360 (!t362))) else (fullerlaw17_ChainTrims.j0 k l0 a1 a2 t360 true)))) = some r := h
 clear h
 replace H := Option.bind_eq_some_iff.mp H
 obtain ⟨t360, A40, H⟩ := H
 replace H : ((fullerref17_Few.f k l0).bind fun t361 => (if t361 = true then ((chain_Check.f k l0).bind fun t362 => (fullerlaw17_ChainTrims.j0 k l0 a1 a2 t360 (!t362))) else (fullerlaw17_ChainTrims.j0 k l0 a1 a2 t360 true))) = some r := H
 have A4 := Aside0.mk A40
 clear A40
 have HC5 := Aside0.mk H
 clear H
 go_enter Try.func5, Try.ntmps5
 go_upto_region 2 with (first | ((with_reducible refine gate_callee (f := 8) rfl ?_); refine goesL_ (some 15) rfl rfl Try.func8 (by kernel_rfl) rfl #[] rfl (by (try simp only [List.map_toArray, List.map_cons, List.map_nil]); first | done | rfl | (simp only [List.length_drop, List.length_take]; rfl)) ?_; (with_reducible refine (fullerlaw17_awake.calls k  t360 _ A4.out).mono ?_); rintro e w6 ⟨rfl, hb⟩; refine ⟨_, rfl, ?_⟩; have n0_ := Aside0.mk (below_step (bq0_ HB.out) hb); clear HB; have HB := n0_; clear n0_; (try clear hb); (try clear hb2); (try clear hk); (try clear hi)))
 (try simp only [Act.put, sA_, sB_, sC_])
 go_cut [23] (fun v23 wc => ∃ (kq : Nat) (x23_4 : Bool), v23 = .bool x23_4 ∧ Aside0 (fullerlaw17_ChainTrims.j0 kq l0 a1 a2 t360 x23_4 = some r) ∧ Aside0 (kq ≤ k) ∧ Aside0 (Below w.heap.size w wc))
 case first =>
  have H := HC5.out
  clear HC5
  replace H := Option.bind_eq_some_iff.mp H
  obtain ⟨t361, A70, H⟩ := H
  replace H : (if t361 = true then ((chain_Check.f k l0).bind fun t362 => (fullerlaw17_ChainTrims.j0 k l0 a1 a2 t360 (!t362))) else (fullerlaw17_ChainTrims.j0 k l0 a1 a2 t360 true)) = some r := H
  have A7 := Aside0.mk A70
  clear A70
  by_cases c8 : t361 = true
  ·subst c8
   have H1 : ((chain_Check.f k l0).bind fun t362 => (fullerlaw17_ChainTrims.j0 k l0 a1 a2 t360 (!t362))) = some r := by rw [if_pos rfl] at H; exact H
   clear H
   have H := H1
   clear H1
   replace H := Option.bind_eq_some_iff.mp H
   obtain ⟨t362, A90, H⟩ := H
   replace H : (fullerlaw17_ChainTrims.j0 k l0 a1 a2 t360 (!t362)) = some r := H
   have A9 := Aside0.mk A90
   clear A90
   have H' := Aside0.mk H
   clear H
   go_wp2_with (first | ((with_reducible refine gate_callee (f := 9) rfl ?_); refine goesL_ (some 17) rfl rfl Try.func9 (by kernel_rfl) rfl #[.slice A0 l0.length c0] rfl (by (try simp only [List.map_toArray, List.map_cons, List.map_nil]); first | done | rfl | (simp only [List.length_drop, List.length_take]; rfl)) ?_; (with_reducible refine (fullerref17_Few.calls k _ _ l0 true _ ?side1 ?side2 A7.out).mono ?_); (case side1 => repeat (first | exact (Kd.C_below HR0.out HB.out) | (with_reducible refine Kd.C_alloc ?_ _) | (with_reducible refine Kd.C_drewN ?_ _) | (with_reducible refine Kd.C_drew ?_))); (case side2 => exact HC0.out); rintro e w10 ⟨rfl, hb⟩; refine ⟨_, rfl, ?_⟩; have n0_ := Aside0.mk (below_step (bq0_ HB.out) hb); clear HB; have HB := n0_; clear n0_; (try clear hb); (try clear hb2); (try clear hk); (try clear hi)) | (go_at_call 17; (with_reducible refine (chain_Check.calls k _ _ l0 t362 _ ?side1 ?side2 A9.out).mono ?_); (case side1 => repeat (first | exact (Kd.C_below HR0.out HB.out) | (with_reducible refine Kd.C_alloc ?_ _) | (with_reducible refine Kd.C_drewN ?_ _) | (with_reducible refine Kd.C_drew ?_))); (case side2 => exact HC0.out); rintro e w11 ⟨rfl, hb⟩; have n0_ := Aside0.mk (below_step (bq0_ HB.out) hb); clear HB; have HB := n0_; clear n0_; (try clear hb); (try clear hb2); (try clear hk); (try clear hi)))
   go_meet
   case rel => exact ⟨_, (!t362), (by first | rfl | (simp; done) | (simp [*]; done)), H', ⟨by first | omega | exact Nat.le_refl _⟩, ⟨by repeat (first | (with_reducible first | exact HB.out | apply below_alloc | apply pw_below_drewN | apply below_drew1) | exact HB.out)⟩⟩
  ·replace c8 := Bool.eq_false_iff.mpr c8
   subst c8
   have H1 : (fullerlaw17_ChainTrims.j0 k l0 a1 a2 t360 true) = some r := by rw [if_neg (show ¬ (false = true) by decide)] at H; exact H
   clear H
   have H := H1
   clear H1
   have H' := Aside0.mk H
   clear H
   go_wp2_with (first | ((with_reducible refine gate_callee (f := 9) rfl ?_); refine goesL_ (some 17) rfl rfl Try.func9 (by kernel_rfl) rfl #[.slice A0 l0.length c0] rfl (by (try simp only [List.map_toArray, List.map_cons, List.map_nil]); first | done | rfl | (simp only [List.length_drop, List.length_take]; rfl)) ?_; (with_reducible refine (fullerref17_Few.calls k _ _ l0 false _ ?side1 ?side2 A7.out).mono ?_); (case side1 => repeat (first | exact (Kd.C_below HR0.out HB.out) | (with_reducible refine Kd.C_alloc ?_ _) | (with_reducible refine Kd.C_drewN ?_ _) | (with_reducible refine Kd.C_drew ?_))); (case side2 => exact HC0.out); rintro e w12 ⟨rfl, hb⟩; refine ⟨_, rfl, ?_⟩; have n0_ := Aside0.mk (below_step (bq0_ HB.out) hb); clear HB; have HB := n0_; clear n0_; (try clear hb); (try clear hb2); (try clear hk); (try clear hi)))
   go_meet
   case rel => exact ⟨_, (true), (by first | rfl | (simp; done) | (simp [*]; done)), H', ⟨by first | omega | exact Nat.le_refl _⟩, ⟨by repeat (first | (with_reducible first | exact HB.out | apply below_alloc | apply pw_below_drewN | apply below_drew1) | exact HB.out)⟩⟩
 case rest =>
  clear HC5
  try clear p2
  try clear c5
  try clear c8
  try clear c9
  obtain ⟨kq, x23_4, rfl, HA, HJ4, HB⟩ := hcut
  cases kq with
  | zero => exact absurd HA.out (by simp [fullerlaw17_ChainTrims.j0])
  | succ kj4 =>
   have H := HA.out
   clear HA
   simp only [fullerlaw17_ChainTrims.j0] at H
   by_cases c13 : x23_4 = true
   ·subst c13
    have H1 : (some t360) = some r := by rw [if_pos rfl] at H; exact H
    clear H
    have H := H1
    clear H1
    obtain rfl := Option.some.inj H
    go_wp2
    go_ret
    exact ⟨by first | rfl | (simp [errW_none, errW_some] <;> rfl) | (simp [*, errW_none, errW_some] <;> rfl), by repeat (first | (with_reducible first | exact HB.out | apply below_alloc | apply pw_below_drewN | apply below_drew1) | exact HB.out)⟩
   ·replace c13 := Bool.eq_false_iff.mpr c13
    subst c13
    have H1 : ((chain_Trim.f kj4 l0 a1).bind fun t363 => ((chain_Read.f kj4 l0 (mx a2 a1)).bind fun bt366 => ((chain_Read.f kj4 t363 (mx a2 a1)).bind fun bt374 => (fullerlaw17_ChainTrims.l0 kj4 l0 a1 a2 t360 t363 bt366.2.2 bt374.2.2 0 0 bt366.1 bt366.2.1 bt374.1 bt374.2.1)))) = some r := by rw [if_neg (show ¬ (false = true) by decide)] at H; exact H
    clear H
    have H := H1
    clear H1
    replace H := Option.bind_eq_some_iff.mp H
    obtain ⟨t363, A140, H⟩ := H
    replace H : ((chain_Read.f kj4 l0 (mx a2 a1)).bind fun bt366 => ((chain_Read.f kj4 t363 (mx a2 a1)).bind fun bt374 => (fullerlaw17_ChainTrims.l0 kj4 l0 a1 a2 t360 t363 bt366.2.2 bt374.2.2 0 0 bt366.1 bt366.2.1 bt374.1 bt374.2.1))) = some r := H
    have A14 := Aside0.mk A140
    clear A140
    obtain ⟨ji15, hji15⟩ : ∃ j_ : Int, (mx a2 a1) = j_ := ⟨_, rfl⟩
    replace H : ((chain_Read.f kj4 l0 (ji15)).bind fun bt366 => ((chain_Read.f kj4 t363 (ji15)).bind fun bt374 => (fullerlaw17_ChainTrims.l0 kj4 l0 a1 a2 t360 t363 bt366.2.2 bt374.2.2 0 0 bt366.1 bt366.2.1 bt374.1 bt374.2.1))) = some r := by first | (rw [hji15] at H; exact H) | (simp only [hji15] at H ⊢; exact H)
    (try rw [hji15] at A14)
    have hji15_ : (if a2 < a1 then a1 else a2) = ji15 := hji15
    replace H := Option.bind_eq_some_iff.mp H
    obtain ⟨⟨t366, t369, t372⟩, A160, H⟩ := H
    replace H : ((chain_Read.f kj4 t363 (ji15)).bind fun bt374 => (fullerlaw17_ChainTrims.l0 kj4 l0 a1 a2 t360 t363 t372 bt374.2.2 0 0 t366 t369 bt374.1 bt374.2.1)) = some r := H
    have A16 := Aside0.mk A160
    clear A160
    replace H := Option.bind_eq_some_iff.mp H
    obtain ⟨⟨t374, t377, t380⟩, A180, H⟩ := H
    replace H : (fullerlaw17_ChainTrims.l0 kj4 l0 a1 a2 t360 t363 t372 t380 0 0 t366 t369 t374 t377) = some r := H
    have A18 := Aside0.mk A180
    clear A180
    have H' := Aside0.mk H
    clear H
    go_wp2_with (first | ((with_reducible refine gate_callee (f := 21) rfl ?_); refine goesL_ (some 27) rfl rfl Try.func21 (by kernel_rfl) rfl #[.slice A0 l0.length c0, .int .i64 a1] rfl (by (try simp only [List.map_toArray, List.map_cons, List.map_nil]); first | done | rfl | (simp only [List.length_drop, List.length_take]; rfl)) ?_; (with_reducible refine (chain_Trim.calls kj4 (fun k_ => k_ < w.heap.size) _ _ l0 a1 t363 _ ?side1 A14.out).mono ?_); (case side1 => exact Kd.V_mk HC0.out (Kd.F_below (Kd.C_F k41_heap HR0.out) (bq0_ HB.out))); rintro e w19 ⟨v364, rfl, ho0, hb⟩; refine ⟨_, rfl, ?_⟩; have n0_ := Aside0.mk (Kd.V_lower (Kd.V_mono (ok' := fun k_ => True) ho0 (fun k_ hk_ => trivial)) (below_size (bq0_ HB.out))); have n1_ := Aside0.mk (below_step (bq0_ HB.out) hb); clear HB; have HO365 := n0_; have HB := n1_; clear n0_ n1_; (try clear hb); (try clear hb2); (try clear hk); (try clear hi); (try clear ho0)) | ((with_reducible refine gate_callee (f := 11) rfl ?_); refine goesL_ (some 33) rfl rfl Try.func11 (by kernel_rfl) rfl #[.slice A0 l0.length c0, .int .i64 ji15] rfl (by (try simp only [List.map_toArray, List.map_cons, List.map_nil]); first | done | (simp only [hji15]; rfl) | rfl | (simp only [List.length_drop, List.length_take]; rfl)) ?_; (with_reducible refine (chain_Read.calls kj4 _ _ l0 ji15 t366 t369 t372 _ ?side1 ?side2 A16.out).mono ?_); (case side1 => repeat (first | exact (Kd.C_below HR0.out HB.out) | (with_reducible refine Kd.C_alloc ?_ _) | (with_reducible refine Kd.C_drewN ?_ _) | (with_reducible refine Kd.C_drew ?_))); (case side2 => exact HC0.out); rintro e w20 ⟨v367, v370, rfl, ho0, ho1, hb⟩; refine ⟨_, rfl, ?_⟩; have n0_ := Aside0.mk (Kd.V_mono (Kd.V_told (Kd.V_told (Kd.V_old (mvV_ HO365.out) hb) (Kd.R_base ho0)) (Kd.R_base ho1)) (fun _ h_ => h_.1)); have n1_ := Aside0.mk (Kd.R_lower ho0 (below_size (bq0_ HB.out))); have n2_ := Aside0.mk (Kd.R_lower ho1 (below_size (bq0_ HB.out))); have n3_ := Aside0.mk (below_step (bq0_ HB.out) hb); clear HO365; clear HB; have HO365 := n0_; have HO368 := n1_; have HO371 := n2_; have HB := n3_; clear n0_ n1_ n2_ n3_; (try clear hb); (try clear hb2); (try clear hk); (try clear hi); (try clear ho0); (try clear ho1)) | ((with_reducible refine gate_dst (N := 9) rfl ?_); (try (refine gate_guard (by rfl) ?_; dsimp only)); refine box_event ?hg (N := 9) ?hd (cs := #[.slice none 0 0, .slice none 0 0]) (t := 25) ?hr ?_; (case hd => rfl); (case hg => rfl); (case hr => first | (go_simp; done) | (go_simp; rfl)); intro gb373 hg w21 hbox hb; have n0_ := Aside0.mk (Kd.V_below (Kd.V_elderB (mvV_ HO365.out) gb373 (Nat.le_of_eq hg.symm)) hb); have n1_ := Aside0.mk (Kd.R_below (mvR_ HO368.out) hb); have n2_ := Aside0.mk (Kd.R_below (mvR_ HO371.out) hb); have n3_ := Aside0.mk (below_step (bq0_ HB.out) hb); have n4_ := Aside0.mk (hbox); have n5_ := Aside0.mk ((by rw [hg]; exact (below_size (bq0_ HB.out)) : w.heap.size ≤ gb373)); have n6_ := Aside0.mk ((by rw [hg]; exact (below_size (bq0_ HB.out)) : w.heap.size ≤ gb373)); clear HO365; clear HO368; clear HO371; clear HB; have HO365 := n0_; have HO368 := n1_; have HO371 := n2_; have HB := n3_; have BK373 := n4_; have GW373 := n5_; have GE373 := n6_; clear n0_ n1_ n2_ n3_ n4_ n5_ n6_; clear hb hbox hg; obtain ⟨Ao22, co22, eo22⟩ := Kd.R_slice HO368.out; subst eo22; have hcz23_0 : w21.cell? ⟨gb373, 0, none⟩ = some (.slice none 0 0) := (blk_cell BK373.out 0).trans rfl; have hcz23_1 : w21.cell? ⟨gb373, 1, none⟩ = some (.slice none 0 0) := (blk_cell BK373.out 1).trans rfl; have hfz23_0 := blk_frozen BK373.out 0; have hfz23_1 := blk_frozen BK373.out 1; obtain ⟨Ao24, co24, eo24⟩ := Kd.R_slice HO371.out; subst eo24; obtain ⟨Ao25, co25, eo25⟩ := Kd.V_slice HO365.out; subst eo25) | ((with_reducible refine gate_callee (f := 11) rfl ?_); refine goesL_ (some 41) rfl rfl Try.func11 (by kernel_rfl) rfl #[.slice Ao25 t363.length co25, .int .i64 ji15] rfl (by (try simp only [List.map_toArray, List.map_cons, List.map_nil]); first | done | (simp only [hji15]; rfl) | rfl | (simp only [List.length_drop, List.length_take]; rfl)) ?_; (with_reducible refine (chain_Read.calls kj4 _ _ t363 ji15 t374 t377 t380 _ ?side1 ?side2 A18.out).mono ?_); (case side1 => refine (Kd.V_reads' (e := 41) (base := w.heap.size) (ok := fun k_ => (((True ∧ some k_ ≠ (.slice Ao22 t366.length co22 : Value).ownBlock) ∧ some k_ ≠ (.slice Ao24 t369.length co24 : Value).ownBlock) ∧ k_ ≠ gb373)) (n := t363.length) (c := co25) ?_).2.2; exact (by (with_reducible repeat (first | apply Kd.V_alloc | apply Kd.V_drewN | apply Kd.V_drew)); exact (Kd.V_mono (Kd.V_far (p := ⟨gb373, 1, none⟩) (Kd.V_far (p := ⟨gb373, 0, none⟩) (Kd.V_mono HO365.out (fun k_ hk => (⟨hk, hk.2⟩ : _ ∧ k_ ≠ gb373))) (fun _ hk => hk.2) (.slice Ao22 t366.length co22)) (fun _ hk => hk.2) (.slice Ao24 t369.length co24)) (fun _ h_ => h_.1)))); (case side2 => exact (Kd.V_reads' HO365.out).2.1); rintro e w26 ⟨v375, v378, rfl, ho0, ho1, hb⟩; refine ⟨_, rfl, ?_⟩; have n0_ := Aside0.mk (Kd.V_mono (Kd.V_told (Kd.V_told (Kd.V_old (by (with_reducible repeat (first | apply Kd.V_alloc | apply Kd.V_drewN | apply Kd.V_drew)); exact (Kd.V_mono (Kd.V_far (p := ⟨gb373, 1, none⟩) (Kd.V_far (p := ⟨gb373, 0, none⟩) (Kd.V_mono HO365.out (fun k_ hk => (⟨hk, hk.2⟩ : _ ∧ k_ ≠ gb373))) (fun _ hk => hk.2) (.slice Ao22 t366.length co22)) (fun _ hk => hk.2) (.slice Ao24 t369.length co24)) (fun _ h_ => h_.1))) hb) (Kd.R_base ho0)) (Kd.R_base ho1)) (fun _ h_ => h_.1)); have n1_ := Aside0.mk (Kd.R_mono (Kd.R_told (Kd.R_told (Kd.R_old (by (with_reducible repeat (first | apply Kd.R_alloc | apply Kd.R_drewN | apply Kd.R_drew)); exact (Kd.R_mono (Kd.R_far (p := ⟨gb373, 1, none⟩) (Kd.R_far (p := ⟨gb373, 0, none⟩) (Kd.R_types HO368.out BK373.out (by decide)) (fun _ hk => hk.2) (.slice Ao22 t366.length co22)) (fun _ hk => hk.2) (.slice Ao24 t369.length co24)) (fun _ h_ => h_.1))) hb) (Kd.R_base ho0)) (Kd.R_base ho1)) (fun _ h_ => h_.1)); have n2_ := Aside0.mk (Kd.R_mono (Kd.R_told (Kd.R_told (Kd.R_old (by (with_reducible repeat (first | apply Kd.R_alloc | apply Kd.R_drewN | apply Kd.R_drew)); exact (Kd.R_mono (Kd.R_far (p := ⟨gb373, 1, none⟩) (Kd.R_far (p := ⟨gb373, 0, none⟩) (Kd.R_types HO371.out BK373.out (by decide)) (fun _ hk => hk.2) (.slice Ao22 t366.length co22)) (fun _ hk => hk.2) (.slice Ao24 t369.length co24)) (fun _ h_ => h_.1))) hb) (Kd.R_base ho0)) (Kd.R_base ho1)) (fun _ h_ => h_.1)); have n3_ := Aside0.mk (Kd.R_lower (Kd.R_new' (Kd.R_new' ho0 (Kd.R_lt (by (with_reducible repeat (first | apply Kd.R_alloc | apply Kd.R_drewN | apply Kd.R_drew)); exact (Kd.R_mono (Kd.R_far (p := ⟨gb373, 1, none⟩) (Kd.R_far (p := ⟨gb373, 0, none⟩) (Kd.R_types HO368.out BK373.out (by decide)) (fun _ hk => hk.2) (.slice Ao22 t366.length co22)) (fun _ hk => hk.2) (.slice Ao24 t369.length co24)) (fun _ h_ => h_.1))))) (Kd.R_lt (by (with_reducible repeat (first | apply Kd.R_alloc | apply Kd.R_drewN | apply Kd.R_drew)); exact (Kd.R_mono (Kd.R_far (p := ⟨gb373, 1, none⟩) (Kd.R_far (p := ⟨gb373, 0, none⟩) (Kd.R_types HO371.out BK373.out (by decide)) (fun _ hk => hk.2) (.slice Ao22 t366.length co22)) (fun _ hk => hk.2) (.slice Ao24 t369.length co24)) (fun _ h_ => h_.1))))) (below_size (bq1_ HB.out GE373.out))); have n4_ := Aside0.mk (Kd.R_lower (Kd.R_new' (Kd.R_new' ho1 (Kd.R_lt (by (with_reducible repeat (first | apply Kd.R_alloc | apply Kd.R_drewN | apply Kd.R_drew)); exact (Kd.R_mono (Kd.R_far (p := ⟨gb373, 1, none⟩) (Kd.R_far (p := ⟨gb373, 0, none⟩) (Kd.R_types HO368.out BK373.out (by decide)) (fun _ hk => hk.2) (.slice Ao22 t366.length co22)) (fun _ hk => hk.2) (.slice Ao24 t369.length co24)) (fun _ h_ => h_.1))))) (Kd.R_lt (by (with_reducible repeat (first | apply Kd.R_alloc | apply Kd.R_drewN | apply Kd.R_drew)); exact (Kd.R_mono (Kd.R_far (p := ⟨gb373, 1, none⟩) (Kd.R_far (p := ⟨gb373, 0, none⟩) (Kd.R_types HO371.out BK373.out (by decide)) (fun _ hk => hk.2) (.slice Ao22 t366.length co22)) (fun _ hk => hk.2) (.slice Ao24 t369.length co24)) (fun _ h_ => h_.1))))) (below_size (bq1_ HB.out GE373.out))); have n5_ := Aside0.mk (blk_below (g := gb373) (o := .cells #[.slice Ao22 t366.length co22, .slice Ao24 t369.length co24] 25 (0, 0)) (by (with_reducible repeat (first | refine blk_drewN ?_ _ | refine blk_drew ?_ | refine blk_alloc ?_ _)); refine blk_put (cs := #[.slice Ao22 t366.length co22, .slice none 0 0]) ?_ 1 _ rfl; (with_reducible repeat (first | refine blk_drewN ?_ _ | refine blk_drew ?_ | refine blk_alloc ?_ _)); refine blk_put (cs := #[.slice none 0 0, .slice none 0 0]) ?_ 0 _ rfl; (with_reducible repeat (first | refine blk_drewN ?_ _ | refine blk_drew ?_ | refine blk_alloc ?_ _)); exact BK373.out) hb); have n6_ := Aside0.mk (below_step (bq1_ HB.out GE373.out) hb); clear HO365; clear HO368; clear HO371; clear BK373; clear HB; have HO365 := n0_; have HO368 := n1_; have HO371 := n2_; have HO376 := n3_; have HO379 := n4_; have BK373 := n5_; have HB := n6_; clear n0_ n1_ n2_ n3_ n4_ n5_ n6_; (try clear hb); (try clear hb2); (try clear hk); (try clear hi); (try clear ho0); (try clear ho1)) | ((with_reducible refine gate_dst (N := 11) rfl ?_); (try (refine gate_guard (by rfl) ?_; dsimp only)); refine box_event ?hg (N := 11) ?hd (cs := #[.slice none 0 0, .slice none 0 0]) (t := 25) ?hr ?_; (case hd => rfl); (case hg => rfl); (case hr => first | (go_simp; done) | (go_simp; rfl)); intro gb381 hg w27 hbox hb; have n0_ := Aside0.mk (Kd.V_below (Kd.V_elderB (mvV_ HO365.out) gb381 (Nat.le_of_eq hg.symm)) hb); have n1_ := Aside0.mk (Kd.R_below (mvR_ HO368.out) hb); have n2_ := Aside0.mk (Kd.R_below (mvR_ HO371.out) hb); have n3_ := Aside0.mk (Kd.R_below (mvR_ HO376.out) hb); have n4_ := Aside0.mk (Kd.R_below (mvR_ HO379.out) hb); have n5_ := Aside0.mk (blk_below (g := gb373) (o := .cells #[.slice Ao22 t366.length co22, .slice Ao24 t369.length co24] 25 (0, 0)) (mvK_ BK373.out) hb); have n6_ := Aside0.mk (below_step (bq1_ HB.out GE373.out) hb); have n7_ := Aside0.mk (hbox); have n8_ := Aside0.mk ((by rw [hg]; exact (below_size (bq1_ HB.out GE373.out)) : w.heap.size ≤ gb381)); have n9_ := Aside0.mk ((by rw [hg]; exact (below_size (bq1_ HB.out GE373.out)) : w.heap.size ≤ gb381)); have n10_ := Aside0.mk ((by rw [hg]; exact Nat.ne_of_lt (blk_lt (g := gb373) (o := .cells #[.slice Ao22 t366.length co22, .slice Ao24 t369.length co24] 25 (0, 0)) (mvK_ BK373.out)) : gb373 ≠ gb381)); have n11_ := Aside0.mk ((by rw [hg]; exact Nat.ne_of_gt (blk_lt (g := gb373) (o := .cells #[.slice Ao22 t366.length co22, .slice Ao24 t369.length co24] 25 (0, 0)) (mvK_ BK373.out)) : gb381 ≠ gb373)); clear HO365; clear HO368; clear HO371; clear HO376; clear HO379; clear BK373; clear HB; have HO365 := n0_; have HO368 := n1_; have HO371 := n2_; have HO376 := n3_; have HO379 := n4_; have BK373 := n5_; have HB := n6_; have BK381 := n7_; have GW381 := n8_; have GE381 := n9_; have NB373_381 := n10_; have NB381_373 := n11_; clear n0_ n1_ n2_ n3_ n4_ n5_ n6_ n7_ n8_ n9_ n10_ n11_; clear hb hbox hg; obtain ⟨Ao28, co28, eo28⟩ := Kd.R_slice HO376.out; subst eo28; have hnb29 := NB381_373.out; have hnc29 := NB373_381.out; have hcz30_0 : w27.cell? ⟨gb381, 0, none⟩ = some (.slice none 0 0) := (blk_cell BK381.out 0).trans rfl; have hcz30_1 : w27.cell? ⟨gb381, 1, none⟩ = some (.slice none 0 0) := (blk_cell BK381.out 1).trans rfl; have hfz30_0 := blk_frozen BK381.out 0; have hfz30_1 := blk_frozen BK381.out 1; obtain ⟨Ao31, co31, eo31⟩ := Kd.R_slice HO379.out; subst eo31))
    go_loopg [13, 14] kj4 (fun kq v13 v14 w' => ∃ (x13_2 : Int) (x14_2 : Int), v13 = .int .i64 x13_2 ∧ v14 = .int .i64 x14_2 ∧ Aside0 (fullerlaw17_ChainTrims.l0 kq l0 a1 a2 t360 t363 t372 t380 x13_2 x14_2 t366 t369 t374 t377 = some r) ∧ Aside0 (kq ≤ kj4) ∧ Aside0 (Kd.V k41 41 w' w.heap.size (fun k_ => some k_ ≠ ((.slice Ao22 t366.length co22) : Value).ownBlock ∧ some k_ ≠ ((.slice Ao24 t369.length co24) : Value).ownBlock ∧ some k_ ≠ ((.slice Ao28 t374.length co28) : Value).ownBlock ∧ some k_ ≠ ((.slice Ao31 t377.length co31) : Value).ownBlock ∧ k_ ≠ gb373 ∧ k_ ≠ gb381) (.slice Ao25 t363.length co25) t363) ∧ Aside0 (Kd.R (Kd.int .i64) 3 w' w.heap.size (fun k_ => some k_ ≠ ((.slice Ao24 t369.length co24) : Value).ownBlock ∧ some k_ ≠ ((.slice Ao28 t374.length co28) : Value).ownBlock ∧ some k_ ≠ ((.slice Ao31 t377.length co31) : Value).ownBlock) (.slice Ao22 t366.length co22) t366) ∧ Aside0 (Kd.R (Kd.int .i64) 3 w' w.heap.size (fun k_ => some k_ ≠ ((.slice Ao22 t366.length co22) : Value).ownBlock ∧ some k_ ≠ ((.slice Ao28 t374.length co28) : Value).ownBlock ∧ some k_ ≠ ((.slice Ao31 t377.length co31) : Value).ownBlock) (.slice Ao24 t369.length co24) t369) ∧ Aside0 (Kd.R (Kd.int .i64) 3 w' w.heap.size (fun k_ => some k_ ≠ ((.slice Ao22 t366.length co22) : Value).ownBlock ∧ some k_ ≠ ((.slice Ao24 t369.length co24) : Value).ownBlock ∧ some k_ ≠ ((.slice Ao31 t377.length co31) : Value).ownBlock) (.slice Ao28 t374.length co28) t374) ∧ Aside0 (Kd.R (Kd.int .i64) 3 w' w.heap.size (fun k_ => some k_ ≠ ((.slice Ao22 t366.length co22) : Value).ownBlock ∧ some k_ ≠ ((.slice Ao24 t369.length co24) : Value).ownBlock ∧ some k_ ≠ ((.slice Ao28 t374.length co28) : Value).ownBlock) (.slice Ao31 t377.length co31) t377) ∧ Aside0 (w'.heap[gb373]? = some (.cells #[(.slice Ao22 t366.length co22), (.slice Ao24 t369.length co24)] 25 (0, 0))) ∧ Aside0 (w'.heap[gb381]? = some (.cells #[(.slice Ao28 t374.length co28), (.slice Ao31 t377.length co31)] 25 (0, 0))) ∧ Aside0 (Below w.heap.size w w'))
    case atStart => exact ⟨(0), (0), (by first | rfl | (simp; done) | (simp [*]; done)), (by first | rfl | (simp; done) | (simp [*]; done)), H', ⟨Nat.le_refl _⟩, ⟨by (with_reducible repeat (first | apply Kd.V_alloc | apply Kd.V_drewN | apply Kd.V_drew)); exact Kd.V_mono (Kd.V_far (p := ⟨gb381, 1, none⟩) (Kd.V_far (p := ⟨gb381, 0, none⟩) (Kd.V_mono HO365.out (fun k_ hk => (⟨hk, hk.2⟩ : _ ∧ k_ ≠ gb381))) (fun _ hk => hk.2) (.slice Ao28 t374.length co28)) (fun _ hk => hk.2) (.slice Ao31 t377.length co31)) (fun _ hk => ⟨hk.1.1.1.1.1.1.2, ⟨hk.1.1.1.1.1.2, ⟨hk.1.1.1.2, ⟨hk.1.1.2, ⟨hk.1.1.1.1.2, hk.1.2⟩⟩⟩⟩⟩)⟩, ⟨by (with_reducible repeat (first | apply Kd.R_alloc | apply Kd.R_drewN | apply Kd.R_drew)); exact Kd.R_mono (Kd.R_far (p := ⟨gb381, 1, none⟩) (Kd.R_far (p := ⟨gb381, 0, none⟩) (Kd.R_types HO368.out BK381.out (by decide)) (fun _ hk => hk.2) (.slice Ao28 t374.length co28)) (fun _ hk => hk.2) (.slice Ao31 t377.length co31)) (fun _ hk => ⟨hk.1.1.1, ⟨hk.1.1.2, hk.1.2⟩⟩)⟩, ⟨by (with_reducible repeat (first | apply Kd.R_alloc | apply Kd.R_drewN | apply Kd.R_drew)); exact Kd.R_mono (Kd.R_far (p := ⟨gb381, 1, none⟩) (Kd.R_far (p := ⟨gb381, 0, none⟩) (Kd.R_types HO371.out BK381.out (by decide)) (fun _ hk => hk.2) (.slice Ao28 t374.length co28)) (fun _ hk => hk.2) (.slice Ao31 t377.length co31)) (fun _ hk => ⟨hk.1.1.1, ⟨hk.1.1.2, hk.1.2⟩⟩)⟩, ⟨by (with_reducible repeat (first | apply Kd.R_alloc | apply Kd.R_drewN | apply Kd.R_drew)); exact Kd.R_mono (Kd.R_far (p := ⟨gb381, 1, none⟩) (Kd.R_far (p := ⟨gb381, 0, none⟩) (Kd.R_types HO376.out BK381.out (by decide)) (fun _ hk => hk.2) (.slice Ao28 t374.length co28)) (fun _ hk => hk.2) (.slice Ao31 t377.length co31)) (fun _ hk => ⟨hk.1.1.2, ⟨hk.1.2, hk.1.1.1⟩⟩)⟩, ⟨by (with_reducible repeat (first | apply Kd.R_alloc | apply Kd.R_drewN | apply Kd.R_drew)); exact Kd.R_mono (Kd.R_far (p := ⟨gb381, 1, none⟩) (Kd.R_far (p := ⟨gb381, 0, none⟩) (Kd.R_types HO379.out BK381.out (by decide)) (fun _ hk => hk.2) (.slice Ao28 t374.length co28)) (fun _ hk => hk.2) (.slice Ao31 t377.length co31)) (fun _ hk => ⟨hk.1.1.2, ⟨hk.1.2, hk.1.1.1⟩⟩)⟩, ⟨by (with_reducible repeat (first | refine blk_drewN ?_ _ | refine blk_drew ?_ | refine blk_alloc ?_ _)); refine blk_far ?_ NB373_381.out _; (with_reducible repeat (first | refine blk_drewN ?_ _ | refine blk_drew ?_ | refine blk_alloc ?_ _)); refine blk_far ?_ NB373_381.out _; (with_reducible repeat (first | refine blk_drewN ?_ _ | refine blk_drew ?_ | refine blk_alloc ?_ _)); exact BK373.out⟩, ⟨by (with_reducible repeat (first | refine blk_drewN ?_ _ | refine blk_drew ?_ | refine blk_alloc ?_ _)); refine blk_put (cs := #[.slice Ao28 t374.length co28, .slice none 0 0]) ?_ 1 _ rfl; (with_reducible repeat (first | refine blk_drewN ?_ _ | refine blk_drew ?_ | refine blk_alloc ?_ _)); refine blk_put (cs := #[.slice none 0 0, .slice none 0 0]) ?_ 0 _ rfl; (with_reducible repeat (first | refine blk_drewN ?_ _ | refine blk_drew ?_ | refine blk_alloc ?_ _)); exact BK381.out⟩, ⟨by repeat (first | (with_reducible first | exact HB.out | apply below_alloc | apply pw_below_drewN | apply below_drew1 | refine below_set ?_ GE373.out | refine below_set ?_ GE381.out) | exact HB.out)⟩⟩
    case round =>
     clear H'
     try clear c1
     try clear c2
     try clear p2
     try clear c5
     try clear c8
     try clear c9
     try clear c11
     try clear c13
     try clear c17
     try clear c17b0
     try clear c21
     try clear c29
     try clear hcz23_0
     try clear hcz23_1
     try clear hcz30_0
     try clear hcz30_1
     try clear hfz23_0
     try clear hfz23_1
     try clear hfz30_0
     try clear hfz30_1
     try clear p2
     obtain ⟨x13_2, x14_2, rfl, rfl, HA, HK2, HO_8, HO_374000, HO_374001, HO_382000, HO_382001, BK373, BK381, HB⟩ := hrel
     cases gk with
     | zero => exact absurd HA.out (by simp [fullerlaw17_ChainTrims.l0])
     | succ k2 =>
      have H := HA.out
      clear HA
      simp only [fullerlaw17_ChainTrims.l0] at H
      by_cases c32 : x14_2 < (t363.length : Int)
      ·rw [if_pos c32] at H
       have c32b0 : decide (x14_2 < (t363.length : Int)) = true := decide_eq_true c32
       clear c32
       by_cases c33 : 0 ≤ x14_2
       ·rw [if_pos c33] at H
        have c33b0 : decide (0 ≤ x14_2) = true := decide_eq_true c33
        clear c33
        by_cases c34 : ((rd_T41 t363 x14_2).f0) ≤ a1
        ·rw [if_pos c34] at H
         have c34b0 : decide (((rd_T41 t363 x14_2).f0) ≤ a1) = true := decide_eq_true c34
         clear c34
         have H' := Aside0.mk H
         clear H
         have p382 : 0 ≤ (x14_2 : Int) := of_decide_eq_true (by first | (with_reducible assumption) | assumption)
         have q382 : x14_2 < (t363.length : Int) := of_decide_eq_true (by first | (with_reducible assumption) | assumption)
         obtain ⟨ad382, A382_1, c382_1, A382_2, c382_2, e382, hx382_0, hx382_1, hx382_2, hl382_1, hi382_1, hl382_2, hi382_2⟩ := at_T41 (Kd.V_reads' HO_8.out).2.2 x14_2 p382 q382
         cases e382
         obtain ⟨ce382, hce382, hMe382, hcc382⟩ := Kd.V_get HO_8.out z41 x14_2 p382 (by first | exact q382 | exact of_decide_eq_true (by first | (with_reducible assumption) | assumption) | (have e_ := (Kd.V_reads' HO_8.out).1; omega))
         obtain ⟨ua382_1, uc382_1, ua382_2, uc382_2, rfl, ul382_1, ge382_1, ul382_2, ge382_2⟩ := k41_openF hMe382
         have hv382_1 := hcc382 1 _ rfl
         rw [add_field _ _ 1 (by omega)] at hv382_1
         replace hv382_1 := Option.some.inj (hv382_1.symm.trans hx382_1)
         injection hv382_1 with hva_ hvn_ hvc_
         rw [hva_] at ge382_1
         rw [hvc_] at ul382_1
         have HL382_1 := Aside0.mk (show Kd.V (Kd.int .i64) 3 _ w.heap.size _ _ ((rd_T41 t363 x14_2).f1.f0) from Kd.V_mk ul382_1 ge382_1)
         clear hva_ hvn_ hvc_ ge382_1 ul382_1
         have hv382_2 := hcc382 2 _ rfl
         rw [add_field _ _ 2 (by omega)] at hv382_2
         replace hv382_2 := Option.some.inj (hv382_2.symm.trans hx382_2)
         injection hv382_2 with hva_ hvn_ hvc_
         rw [hva_] at ge382_2
         rw [hvc_] at ul382_2
         have HL382_2 := Aside0.mk (show Kd.V (Kd.int .i64) 3 _ w.heap.size _ _ ((rd_T41 t363 x14_2).f1.f1) from Kd.V_mk ul382_2 ge382_2)
         clear hva_ hvn_ hvc_ ge382_2 ul382_2 hcc382 hce382
         have HR382_1 := Aside0.mk hi382_1
         have HC382_1 := Aside0.mk hl382_1
         clear hi382_1 hl382_1
         have HR382_2 := Aside0.mk hi382_2
         have HC382_2 := Aside0.mk hl382_2
         clear hi382_2 hl382_2
         replace p382 := eq_true p382
         replace q382 := eq_true q382
         go_wp2
         go_roundg k2
         case measure => have := HJ4.out; have := HK2.out; omega
         case rel => exact ⟨(wrap64 (x13_2 + 1)), (wrap64 (x14_2 + 1)), (by first | rfl | (simp; done) | (simp [*]; done)), (by first | rfl | (simp; done) | (simp [*]; done)), H', ⟨by have := HJ4.out; have := HK2.out; omega⟩, ⟨by (with_reducible repeat (first | apply Kd.V_alloc | apply Kd.V_drewN | apply Kd.V_drew)); exact HO_8.out⟩, ⟨by (with_reducible repeat (first | apply Kd.R_alloc | apply Kd.R_drewN | apply Kd.R_drew)); exact HO_374000.out⟩, ⟨by (with_reducible repeat (first | apply Kd.R_alloc | apply Kd.R_drewN | apply Kd.R_drew)); exact HO_374001.out⟩, ⟨by (with_reducible repeat (first | apply Kd.R_alloc | apply Kd.R_drewN | apply Kd.R_drew)); exact HO_382000.out⟩, ⟨by (with_reducible repeat (first | apply Kd.R_alloc | apply Kd.R_drewN | apply Kd.R_drew)); exact HO_382001.out⟩, ⟨by (with_reducible repeat (first | refine blk_drewN ?_ _ | refine blk_drew ?_ | refine blk_alloc ?_ _)); exact BK373.out⟩, ⟨by (with_reducible repeat (first | refine blk_drewN ?_ _ | refine blk_drew ?_ | refine blk_alloc ?_ _)); exact BK381.out⟩, ⟨by repeat (first | (with_reducible first | exact HB.out | apply below_alloc | apply pw_below_drewN | apply below_drew1 | refine below_set ?_ GE373.out | refine below_set ?_ GE381.out) | exact HB.out)⟩⟩
        ·rw [if_neg c34] at H
         have c34b0 : decide (((rd_T41 t363 x14_2).f0) ≤ a1) = false := decide_eq_false c34
         clear c34
         have H' := Aside0.mk H
         clear H
         have p382 : 0 ≤ (x14_2 : Int) := of_decide_eq_true (by first | (with_reducible assumption) | assumption)
         have q382 : x14_2 < (t363.length : Int) := of_decide_eq_true (by first | (with_reducible assumption) | assumption)
         obtain ⟨ad382, A382_1, c382_1, A382_2, c382_2, e382, hx382_0, hx382_1, hx382_2, hl382_1, hi382_1, hl382_2, hi382_2⟩ := at_T41 (Kd.V_reads' HO_8.out).2.2 x14_2 p382 q382
         cases e382
         obtain ⟨ce382, hce382, hMe382, hcc382⟩ := Kd.V_get HO_8.out z41 x14_2 p382 (by first | exact q382 | exact of_decide_eq_true (by first | (with_reducible assumption) | assumption) | (have e_ := (Kd.V_reads' HO_8.out).1; omega))
         obtain ⟨ua382_1, uc382_1, ua382_2, uc382_2, rfl, ul382_1, ge382_1, ul382_2, ge382_2⟩ := k41_openF hMe382
         have hv382_1 := hcc382 1 _ rfl
         rw [add_field _ _ 1 (by omega)] at hv382_1
         replace hv382_1 := Option.some.inj (hv382_1.symm.trans hx382_1)
         injection hv382_1 with hva_ hvn_ hvc_
         rw [hva_] at ge382_1
         rw [hvc_] at ul382_1
         have HL382_1 := Aside0.mk (show Kd.V (Kd.int .i64) 3 _ w.heap.size _ _ ((rd_T41 t363 x14_2).f1.f0) from Kd.V_mk ul382_1 ge382_1)
         clear hva_ hvn_ hvc_ ge382_1 ul382_1
         have hv382_2 := hcc382 2 _ rfl
         rw [add_field _ _ 2 (by omega)] at hv382_2
         replace hv382_2 := Option.some.inj (hv382_2.symm.trans hx382_2)
         injection hv382_2 with hva_ hvn_ hvc_
         rw [hva_] at ge382_2
         rw [hvc_] at ul382_2
         have HL382_2 := Aside0.mk (show Kd.V (Kd.int .i64) 3 _ w.heap.size _ _ ((rd_T41 t363 x14_2).f1.f1) from Kd.V_mk ul382_2 ge382_2)
         clear hva_ hvn_ hvc_ ge382_2 ul382_2 hcc382 hce382
         have HR382_1 := Aside0.mk hi382_1
         have HC382_1 := Aside0.mk hl382_1
         clear hi382_1 hl382_1
         have HR382_2 := Aside0.mk hi382_2
         have HC382_2 := Aside0.mk hl382_2
         clear hi382_2 hl382_2
         replace p382 := eq_true p382
         replace q382 := eq_true q382
         go_wp2
         go_roundg k2
         case measure => have := HJ4.out; have := HK2.out; omega
         case rel => exact ⟨(x13_2), (wrap64 (x14_2 + 1)), (by first | rfl | (simp; done) | (simp [*]; done)), (by first | rfl | (simp; done) | (simp [*]; done)), H', ⟨by have := HJ4.out; have := HK2.out; omega⟩, ⟨by (with_reducible repeat (first | apply Kd.V_alloc | apply Kd.V_drewN | apply Kd.V_drew)); exact HO_8.out⟩, ⟨by (with_reducible repeat (first | apply Kd.R_alloc | apply Kd.R_drewN | apply Kd.R_drew)); exact HO_374000.out⟩, ⟨by (with_reducible repeat (first | apply Kd.R_alloc | apply Kd.R_drewN | apply Kd.R_drew)); exact HO_374001.out⟩, ⟨by (with_reducible repeat (first | apply Kd.R_alloc | apply Kd.R_drewN | apply Kd.R_drew)); exact HO_382000.out⟩, ⟨by (with_reducible repeat (first | apply Kd.R_alloc | apply Kd.R_drewN | apply Kd.R_drew)); exact HO_382001.out⟩, ⟨by (with_reducible repeat (first | refine blk_drewN ?_ _ | refine blk_drew ?_ | refine blk_alloc ?_ _)); exact BK373.out⟩, ⟨by (with_reducible repeat (first | refine blk_drewN ?_ _ | refine blk_drew ?_ | refine blk_alloc ?_ _)); exact BK381.out⟩, ⟨by repeat (first | (with_reducible first | exact HB.out | apply below_alloc | apply pw_below_drewN | apply below_drew1 | refine below_set ?_ GE373.out | refine below_set ?_ GE381.out) | exact HB.out)⟩⟩
       ·rw [if_neg c33] at H
        exact absurd H (by simp)
      ·rw [if_neg c32] at H
       have c32b0 : decide (x14_2 < (t363.length : Int)) = false := decide_eq_false c32
       clear c32
       by_cases c35 : t360 = true
       ·subst c35
        have H1 : (if (t372 == t380) = true then ((fullerref03_Same.f k2 t366 t369 t374 t377).bind fun t383 => (if t383 = true then (if x13_2 ≤ 1 then ((chain_Trim.f k2 t363 a1).bind fun t384 => ((fullerref17_Same.f k2 t384 t363).bind fun t387 => (if t387 = true then ((chain_Check.f k2 t363).bind fun t388 => (if t388 = true then (if (t363.length : Int) ≤ (l0.length : Int) then ((chain_Newer.f k2 t363 a2).bind fun t389 => ((chain_Newer.f k2 l0 a2).bind fun t390 => (some (t389 == t390)))) else (some false)) else (some false))) else (some false)))) else (some false)) else (some false))) else (some false)) = some r := by rw [if_pos rfl] at H; exact H
        clear H
        have H := H1
        clear H1
        by_cases c36 : (t372 == t380) = true
        ·rw [if_pos c36] at H
         have c36b0 : (t372 == t380) = true := c36
         (try (have c36b1 : decide (t372 = t380) = true := by simpa using c36))
         (try (have c36b2 : (t372 == t380) = true := by simpa using c36))
         clear c36
         replace H := Option.bind_eq_some_iff.mp H
         obtain ⟨t383, A370, H⟩ := H
         replace H : (if t383 = true then (if x13_2 ≤ 1 then ((chain_Trim.f k2 t363 a1).bind fun t384 => ((fullerref17_Same.f k2 t384 t363).bind fun t387 => (if t387 = true then ((chain_Check.f k2 t363).bind fun t388 => (if t388 = true then (if (t363.length : Int) ≤ (l0.length : Int) then ((chain_Newer.f k2 t363 a2).bind fun t389 => ((chain_Newer.f k2 l0 a2).bind fun t390 => (some (t389 == t390)))) else (some false)) else (some false))) else (some false)))) else (some false)) else (some false)) = some r := H
         have A37 := Aside0.mk A370
         clear A370
         by_cases c38 : t383 = true
         ·subst c38
          have H1 : (if x13_2 ≤ 1 then ((chain_Trim.f k2 t363 a1).bind fun t384 => ((fullerref17_Same.f k2 t384 t363).bind fun t387 => (if t387 = true then ((chain_Check.f k2 t363).bind fun t388 => (if t388 = true then (if (t363.length : Int) ≤ (l0.length : Int) then ((chain_Newer.f k2 t363 a2).bind fun t389 => ((chain_Newer.f k2 l0 a2).bind fun t390 => (some (t389 == t390)))) else (some false)) else (some false))) else (some false)))) else (some false)) = some r := by rw [if_pos rfl] at H; exact H
          clear H
          have H := H1
          clear H1
          by_cases c39 : x13_2 ≤ 1
          ·rw [if_pos c39] at H
           have c39b0 : decide (x13_2 ≤ 1) = true := decide_eq_true c39
           clear c39
           replace H := Option.bind_eq_some_iff.mp H
           obtain ⟨t384, A400, H⟩ := H
           replace H : ((fullerref17_Same.f k2 t384 t363).bind fun t387 => (if t387 = true then ((chain_Check.f k2 t363).bind fun t388 => (if t388 = true then (if (t363.length : Int) ≤ (l0.length : Int) then ((chain_Newer.f k2 t363 a2).bind fun t389 => ((chain_Newer.f k2 l0 a2).bind fun t390 => (some (t389 == t390)))) else (some false)) else (some false))) else (some false))) = some r := H
           have A40 := Aside0.mk A400
           clear A400
           replace H := Option.bind_eq_some_iff.mp H
           obtain ⟨t387, A410, H⟩ := H
           replace H : (if t387 = true then ((chain_Check.f k2 t363).bind fun t388 => (if t388 = true then (if (t363.length : Int) ≤ (l0.length : Int) then ((chain_Newer.f k2 t363 a2).bind fun t389 => ((chain_Newer.f k2 l0 a2).bind fun t390 => (some (t389 == t390)))) else (some false)) else (some false))) else (some false)) = some r := H
           have A41 := Aside0.mk A410
           clear A410
           by_cases c42 : t387 = true
           ·subst c42
            have H1 : ((chain_Check.f k2 t363).bind fun t388 => (if t388 = true then (if (t363.length : Int) ≤ (l0.length : Int) then ((chain_Newer.f k2 t363 a2).bind fun t389 => ((chain_Newer.f k2 l0 a2).bind fun t390 => (some (t389 == t390)))) else (some false)) else (some false))) = some r := by rw [if_pos rfl] at H; exact H
            clear H
            have H := H1
            clear H1
            replace H := Option.bind_eq_some_iff.mp H
            obtain ⟨t388, A430, H⟩ := H
            replace H : (if t388 = true then (if (t363.length : Int) ≤ (l0.length : Int) then ((chain_Newer.f k2 t363 a2).bind fun t389 => ((chain_Newer.f k2 l0 a2).bind fun t390 => (some (t389 == t390)))) else (some false)) else (some false)) = some r := H
            have A43 := Aside0.mk A430
            clear A430
            by_cases c44 : t388 = true
            ·subst c44
             have H1 : (if (t363.length : Int) ≤ (l0.length : Int) then ((chain_Newer.f k2 t363 a2).bind fun t389 => ((chain_Newer.f k2 l0 a2).bind fun t390 => (some (t389 == t390)))) else (some false)) = some r := by rw [if_pos rfl] at H; exact H
             clear H
             have H := H1
             clear H1
             by_cases c45 : (t363.length : Int) ≤ (l0.length : Int)
             ·rw [if_pos c45] at H
              have c45b0 : decide ((t363.length : Int) ≤ (l0.length : Int)) = true := decide_eq_true c45
              have c45b1 : decide (t363.length ≤ l0.length) = true := decide_eq_true (Int.ofNat_le.mp c45)
              clear c45
              replace H := Option.bind_eq_some_iff.mp H
              obtain ⟨t389, A460, H⟩ := H
              replace H : ((chain_Newer.f k2 l0 a2).bind fun t390 => (some (t389 == t390))) = some r := H
              have A46 := Aside0.mk A460
              clear A460
              replace H := Option.bind_eq_some_iff.mp H
              obtain ⟨t390, A470, H⟩ := H
              replace H : (some (t389 == t390)) = some r := H
              have A47 := Aside0.mk A470
              clear A470
              obtain rfl := Option.some.inj H
              have hnb48 := NB373_381.out
              have hnc48 := NB381_373.out
              have hcz49_0 : wr.cell? ⟨gb373, 0, none⟩ = some (.slice Ao22 t366.length co22) := (blk_cell BK373.out 0).trans rfl
              have hcz49_1 : wr.cell? ⟨gb373, 1, none⟩ = some (.slice Ao24 t369.length co24) := (blk_cell BK373.out 1).trans rfl
              have hfz49_0 := blk_frozen BK373.out 0
              have hfz49_1 := blk_frozen BK373.out 1
              have hcz50_0 : wr.cell? ⟨gb381, 0, none⟩ = some (.slice Ao28 t374.length co28) := (blk_cell BK381.out 0).trans rfl
              have hcz50_1 : wr.cell? ⟨gb381, 1, none⟩ = some (.slice Ao31 t377.length co31) := (blk_cell BK381.out 1).trans rfl
              have hfz50_0 := blk_frozen BK381.out 0
              have hfz50_1 := blk_frozen BK381.out 1
              go_wp2_with (first | (go_at_call 15; (with_reducible refine (fullerref03_Same.calls k2 _ _ t366 _ _ t369 _ _ t374 _ _ t377 true _ ?side1 ?side2 ?side3 ?side4 ?side5 ?side6 ?side7 ?side8 A37.out).mono ?_); (case side1 => repeat (first | exact (Kd.R_reads' HO_374000.out).2.2 | (with_reducible refine Kd.C_alloc ?_ _) | (with_reducible refine Kd.C_drewN ?_ _) | (with_reducible refine Kd.C_drew ?_))); (case side2 => exact (Kd.R_reads' HO_374000.out).2.1); (case side3 => repeat (first | exact (Kd.R_reads' HO_374001.out).2.2 | (with_reducible refine Kd.C_alloc ?_ _) | (with_reducible refine Kd.C_drewN ?_ _) | (with_reducible refine Kd.C_drew ?_))); (case side4 => exact (Kd.R_reads' HO_374001.out).2.1); (case side5 => repeat (first | exact (Kd.R_reads' HO_382000.out).2.2 | (with_reducible refine Kd.C_alloc ?_ _) | (with_reducible refine Kd.C_drewN ?_ _) | (with_reducible refine Kd.C_drew ?_))); (case side6 => exact (Kd.R_reads' HO_382000.out).2.1); (case side7 => repeat (first | exact (Kd.R_reads' HO_382001.out).2.2 | (with_reducible refine Kd.C_alloc ?_ _) | (with_reducible refine Kd.C_drewN ?_ _) | (with_reducible refine Kd.C_drew ?_))); (case side8 => exact (Kd.R_reads' HO_382001.out).2.1); rintro e w51 ⟨rfl, hb⟩; have n0_ := Aside0.mk (Kd.V_below (mvV_ HO_8.out) hb); have n1_ := Aside0.mk (Kd.R_below (mvR_ HO_374000.out) hb); have n2_ := Aside0.mk (Kd.R_below (mvR_ HO_374001.out) hb); have n3_ := Aside0.mk (Kd.R_below (mvR_ HO_382000.out) hb); have n4_ := Aside0.mk (Kd.R_below (mvR_ HO_382001.out) hb); have n5_ := Aside0.mk (blk_below (g := gb373) (o := .cells #[.slice Ao22 t366.length co22, .slice Ao24 t369.length co24] 25 (0, 0)) (mvK_ BK373.out) hb); have n6_ := Aside0.mk (blk_below (g := gb381) (o := .cells #[.slice Ao28 t374.length co28, .slice Ao31 t377.length co31] 25 (0, 0)) (mvK_ BK381.out) hb); have n7_ := Aside0.mk (below_step (bq2_ HB.out GE373.out GE381.out) hb); clear HO_8; clear HO_374000; clear HO_374001; clear HO_382000; clear HO_382001; clear BK373; clear BK381; clear HB; have HO_8 := n0_; have HO_374000 := n1_; have HO_374001 := n2_; have HO_382000 := n3_; have HO_382001 := n4_; have BK373 := n5_; have BK381 := n6_; have HB := n7_; clear n0_ n1_ n2_ n3_ n4_ n5_ n6_ n7_; (try clear hb); (try clear hb2); (try clear hk); (try clear hi)) | (go_at_call 21; (with_reducible refine (chain_Trim.calls k2 (fun k_ => (some k_ ≠ (.slice Ao22 t366.length co22 : Value).ownBlock ∧ (some k_ ≠ (.slice Ao24 t369.length co24 : Value).ownBlock ∧ (some k_ ≠ (.slice Ao28 t374.length co28 : Value).ownBlock ∧ (some k_ ≠ (.slice Ao31 t377.length co31 : Value).ownBlock ∧ (k_ ≠ gb373 ∧ k_ ≠ gb381)))))) _ _ t363 a1 t384 _ ?side1 A40.out).mono ?_); (case side1 => exact HO_8.out); rintro e w52 ⟨v385, rfl, ho0, hb⟩; have n0_ := Aside0.mk (Kd.V_below (mvV_ HO_8.out) hb); have n1_ := Aside0.mk (Kd.R_below (mvR_ HO_374000.out) hb); have n2_ := Aside0.mk (Kd.R_below (mvR_ HO_374001.out) hb); have n3_ := Aside0.mk (Kd.R_below (mvR_ HO_382000.out) hb); have n4_ := Aside0.mk (Kd.R_below (mvR_ HO_382001.out) hb); have n5_ := Aside0.mk (Kd.V_lower (Kd.V_mono (ok' := fun k_ => some k_ ≠ (.slice Ao22 t366.length co22 : Value).ownBlock ∧ some k_ ≠ (.slice Ao24 t369.length co24 : Value).ownBlock ∧ some k_ ≠ (.slice Ao28 t374.length co28 : Value).ownBlock ∧ some k_ ≠ (.slice Ao31 t377.length co31 : Value).ownBlock ∧ k_ ≠ gb373 ∧ k_ ≠ gb381) ho0 (fun k_ hk_ => ⟨Or.elim hk_ (fun hs_ => hs_.1) (fun hn_ => (Kd.fresh' (Kd.R_lt (mvR_ HO_374000.out)) k_ hn_)), Or.elim hk_ (fun hs_ => hs_.2.1) (fun hn_ => (Kd.fresh' (Kd.R_lt (mvR_ HO_374001.out)) k_ hn_)), Or.elim hk_ (fun hs_ => hs_.2.2.1) (fun hn_ => (Kd.fresh' (Kd.R_lt (mvR_ HO_382000.out)) k_ hn_)), Or.elim hk_ (fun hs_ => hs_.2.2.2.1) (fun hn_ => (Kd.fresh' (Kd.R_lt (mvR_ HO_382001.out)) k_ hn_)), Or.elim hk_ (fun hs_ => hs_.2.2.2.2.1) (fun hn_ => (Kd.freshB (g := gb373) (o := .cells #[.slice Ao22 t366.length co22, .slice Ao24 t369.length co24] 25 (0, 0)) (mvK_ BK373.out) k_ hn_)), Or.elim hk_ (fun hs_ => hs_.2.2.2.2.2) (fun hn_ => (Kd.freshB (g := gb381) (o := .cells #[.slice Ao28 t374.length co28, .slice Ao31 t377.length co31] 25 (0, 0)) (mvK_ BK381.out) k_ hn_))⟩)) (below_size (bq2_ HB.out GE373.out GE381.out))); have n6_ := Aside0.mk (blk_below (g := gb373) (o := .cells #[.slice Ao22 t366.length co22, .slice Ao24 t369.length co24] 25 (0, 0)) (mvK_ BK373.out) hb); have n7_ := Aside0.mk (blk_below (g := gb381) (o := .cells #[.slice Ao28 t374.length co28, .slice Ao31 t377.length co31] 25 (0, 0)) (mvK_ BK381.out) hb); have n8_ := Aside0.mk (below_step (bq2_ HB.out GE373.out GE381.out) hb); clear HO_8; clear HO_374000; clear HO_374001; clear HO_382000; clear HO_382001; clear BK373; clear BK381; clear HB; have HO_8 := n0_; have HO_374000 := n1_; have HO_374001 := n2_; have HO_382000 := n3_; have HO_382001 := n4_; have HO386 := n5_; have BK373 := n6_; have BK381 := n7_; have HB := n8_; clear n0_ n1_ n2_ n3_ n4_ n5_ n6_ n7_ n8_; (try clear hb); (try clear hb2); (try clear hk); (try clear hi); (try clear ho0); obtain ⟨Ao53, co53, eo53⟩ := Kd.V_slice HO386.out; subst eo53) | (go_at_call 16; (with_reducible refine (fullerref17_Same.calls k2 _ _ t384 _ _ t363 true _ ?side1 ?side2 ?side3 ?side4 A41.out).mono ?_); (case side1 => repeat (first | exact (Kd.V_reads' HO386.out).2.2 | (with_reducible refine Kd.C_alloc ?_ _) | (with_reducible refine Kd.C_drewN ?_ _) | (with_reducible refine Kd.C_drew ?_))); (case side2 => exact (Kd.V_reads' HO386.out).2.1); (case side3 => repeat (first | exact (Kd.V_reads' HO_8.out).2.2 | (with_reducible refine Kd.C_alloc ?_ _) | (with_reducible refine Kd.C_drewN ?_ _) | (with_reducible refine Kd.C_drew ?_))); (case side4 => exact (Kd.V_reads' HO_8.out).2.1); rintro e w54 ⟨rfl, hb⟩; have n0_ := Aside0.mk (Kd.V_below (mvV_ HO_8.out) hb); have n1_ := Aside0.mk (Kd.R_below (mvR_ HO_374000.out) hb); have n2_ := Aside0.mk (Kd.R_below (mvR_ HO_374001.out) hb); have n3_ := Aside0.mk (Kd.R_below (mvR_ HO_382000.out) hb); have n4_ := Aside0.mk (Kd.R_below (mvR_ HO_382001.out) hb); have n5_ := Aside0.mk (Kd.V_below (mvV_ HO386.out) hb); have n6_ := Aside0.mk (blk_below (g := gb373) (o := .cells #[.slice Ao22 t366.length co22, .slice Ao24 t369.length co24] 25 (0, 0)) (mvK_ BK373.out) hb); have n7_ := Aside0.mk (blk_below (g := gb381) (o := .cells #[.slice Ao28 t374.length co28, .slice Ao31 t377.length co31] 25 (0, 0)) (mvK_ BK381.out) hb); have n8_ := Aside0.mk (below_step (bq2_ HB.out GE373.out GE381.out) hb); clear HO_8; clear HO_374000; clear HO_374001; clear HO_382000; clear HO_382001; clear HO386; clear BK373; clear BK381; clear HB; have HO_8 := n0_; have HO_374000 := n1_; have HO_374001 := n2_; have HO_382000 := n3_; have HO_382001 := n4_; have HO386 := n5_; have BK373 := n6_; have BK381 := n7_; have HB := n8_; clear n0_ n1_ n2_ n3_ n4_ n5_ n6_ n7_ n8_; (try clear hb); (try clear hb2); (try clear hk); (try clear hi)) | (go_at_call 17; (with_reducible refine (chain_Check.calls k2 _ _ t363 true _ ?side1 ?side2 A43.out).mono ?_); (case side1 => repeat (first | exact (Kd.V_reads' HO_8.out).2.2 | (with_reducible refine Kd.C_alloc ?_ _) | (with_reducible refine Kd.C_drewN ?_ _) | (with_reducible refine Kd.C_drew ?_))); (case side2 => exact (Kd.V_reads' HO_8.out).2.1); rintro e w55 ⟨rfl, hb⟩; have n0_ := Aside0.mk (Kd.V_below (mvV_ HO_8.out) hb); have n1_ := Aside0.mk (Kd.R_below (mvR_ HO_374000.out) hb); have n2_ := Aside0.mk (Kd.R_below (mvR_ HO_374001.out) hb); have n3_ := Aside0.mk (Kd.R_below (mvR_ HO_382000.out) hb); have n4_ := Aside0.mk (Kd.R_below (mvR_ HO_382001.out) hb); have n5_ := Aside0.mk (Kd.V_below (mvV_ HO386.out) hb); have n6_ := Aside0.mk (blk_below (g := gb373) (o := .cells #[.slice Ao22 t366.length co22, .slice Ao24 t369.length co24] 25 (0, 0)) (mvK_ BK373.out) hb); have n7_ := Aside0.mk (blk_below (g := gb381) (o := .cells #[.slice Ao28 t374.length co28, .slice Ao31 t377.length co31] 25 (0, 0)) (mvK_ BK381.out) hb); have n8_ := Aside0.mk (below_step (bq2_ HB.out GE373.out GE381.out) hb); clear HO_8; clear HO_374000; clear HO_374001; clear HO_382000; clear HO_382001; clear HO386; clear BK373; clear BK381; clear HB; have HO_8 := n0_; have HO_374000 := n1_; have HO_374001 := n2_; have HO_382000 := n3_; have HO_382001 := n4_; have HO386 := n5_; have BK373 := n6_; have BK381 := n7_; have HB := n8_; clear n0_ n1_ n2_ n3_ n4_ n5_ n6_ n7_ n8_; (try clear hb); (try clear hb2); (try clear hk); (try clear hi)) | (go_at_call 19; (with_reducible refine (chain_Newer.calls k2 _ _ t363 a2 t389 _ ?side1 ?side2 A46.out).mono ?_); (case side1 => repeat (first | exact (Kd.V_reads' HO_8.out).2.2 | (with_reducible refine Kd.C_alloc ?_ _) | (with_reducible refine Kd.C_drewN ?_ _) | (with_reducible refine Kd.C_drew ?_))); (case side2 => exact (Kd.V_reads' HO_8.out).2.1); rintro e w56 ⟨rfl, hb⟩; have n0_ := Aside0.mk (Kd.V_below (mvV_ HO_8.out) hb); have n1_ := Aside0.mk (Kd.R_below (mvR_ HO_374000.out) hb); have n2_ := Aside0.mk (Kd.R_below (mvR_ HO_374001.out) hb); have n3_ := Aside0.mk (Kd.R_below (mvR_ HO_382000.out) hb); have n4_ := Aside0.mk (Kd.R_below (mvR_ HO_382001.out) hb); have n5_ := Aside0.mk (Kd.V_below (mvV_ HO386.out) hb); have n6_ := Aside0.mk (blk_below (g := gb373) (o := .cells #[.slice Ao22 t366.length co22, .slice Ao24 t369.length co24] 25 (0, 0)) (mvK_ BK373.out) hb); have n7_ := Aside0.mk (blk_below (g := gb381) (o := .cells #[.slice Ao28 t374.length co28, .slice Ao31 t377.length co31] 25 (0, 0)) (mvK_ BK381.out) hb); have n8_ := Aside0.mk (below_step (bq2_ HB.out GE373.out GE381.out) hb); clear HO_8; clear HO_374000; clear HO_374001; clear HO_382000; clear HO_382001; clear HO386; clear BK373; clear BK381; clear HB; have HO_8 := n0_; have HO_374000 := n1_; have HO_374001 := n2_; have HO_382000 := n3_; have HO_382001 := n4_; have HO386 := n5_; have BK373 := n6_; have BK381 := n7_; have HB := n8_; clear n0_ n1_ n2_ n3_ n4_ n5_ n6_ n7_ n8_; (try clear hb); (try clear hb2); (try clear hk); (try clear hi)) | (go_at_call 19; (with_reducible refine (chain_Newer.calls k2 _ _ l0 a2 t390 _ ?side1 ?side2 A47.out).mono ?_); (case side1 => repeat (first | exact (Kd.C_below HR0.out HB.out) | (with_reducible refine Kd.C_alloc ?_ _) | (with_reducible refine Kd.C_drewN ?_ _) | (with_reducible refine Kd.C_drew ?_))); (case side2 => exact HC0.out); rintro e w57 ⟨rfl, hb⟩; have n0_ := Aside0.mk (Kd.V_below (mvV_ HO_8.out) hb); have n1_ := Aside0.mk (Kd.R_below (mvR_ HO_374000.out) hb); have n2_ := Aside0.mk (Kd.R_below (mvR_ HO_374001.out) hb); have n3_ := Aside0.mk (Kd.R_below (mvR_ HO_382000.out) hb); have n4_ := Aside0.mk (Kd.R_below (mvR_ HO_382001.out) hb); have n5_ := Aside0.mk (Kd.V_below (mvV_ HO386.out) hb); have n6_ := Aside0.mk (blk_below (g := gb373) (o := .cells #[.slice Ao22 t366.length co22, .slice Ao24 t369.length co24] 25 (0, 0)) (mvK_ BK373.out) hb); have n7_ := Aside0.mk (blk_below (g := gb381) (o := .cells #[.slice Ao28 t374.length co28, .slice Ao31 t377.length co31] 25 (0, 0)) (mvK_ BK381.out) hb); have n8_ := Aside0.mk (below_step (bq2_ HB.out GE373.out GE381.out) hb); clear HO_8; clear HO_374000; clear HO_374001; clear HO_382000; clear HO_382001; clear HO386; clear BK373; clear BK381; clear HB; have HO_8 := n0_; have HO_374000 := n1_; have HO_374001 := n2_; have HO_382000 := n3_; have HO_382001 := n4_; have HO386 := n5_; have BK373 := n6_; have BK381 := n7_; have HB := n8_; clear n0_ n1_ n2_ n3_ n4_ n5_ n6_ n7_ n8_; (try clear hb); (try clear hb2); (try clear hk); (try clear hi)))
              go_ret
              exact ⟨by first | rfl | (simp [errW_none, errW_some] <;> rfl) | (simp only [← hji15]; first | rfl | (simp [errW_none, errW_some] <;> rfl)) | (simp [*, errW_none, errW_some] <;> rfl), by repeat (first | (with_reducible first | exact HB.out | apply below_alloc | apply pw_below_drewN | apply below_drew1 | refine below_set ?_ GE373.out | refine below_set ?_ GE381.out) | exact HB.out)⟩
             ·rw [if_neg c45] at H
              have c45b0 : decide ((t363.length : Int) ≤ (l0.length : Int)) = false := decide_eq_false c45
              have c45b1 : decide (t363.length ≤ l0.length) = false := decide_eq_false (fun h => c45 (Int.ofNat_le.mpr h))
              clear c45
              obtain rfl := Option.some.inj H
              have hnb58 := NB373_381.out
              have hnc58 := NB381_373.out
              have hcz59_0 : wr.cell? ⟨gb373, 0, none⟩ = some (.slice Ao22 t366.length co22) := (blk_cell BK373.out 0).trans rfl
              have hcz59_1 : wr.cell? ⟨gb373, 1, none⟩ = some (.slice Ao24 t369.length co24) := (blk_cell BK373.out 1).trans rfl
              have hfz59_0 := blk_frozen BK373.out 0
              have hfz59_1 := blk_frozen BK373.out 1
              have hcz60_0 : wr.cell? ⟨gb381, 0, none⟩ = some (.slice Ao28 t374.length co28) := (blk_cell BK381.out 0).trans rfl
              have hcz60_1 : wr.cell? ⟨gb381, 1, none⟩ = some (.slice Ao31 t377.length co31) := (blk_cell BK381.out 1).trans rfl
              have hfz60_0 := blk_frozen BK381.out 0
              have hfz60_1 := blk_frozen BK381.out 1
              go_wp2_with (first | (go_at_call 15; (with_reducible refine (fullerref03_Same.calls k2 _ _ t366 _ _ t369 _ _ t374 _ _ t377 true _ ?side1 ?side2 ?side3 ?side4 ?side5 ?side6 ?side7 ?side8 A37.out).mono ?_); (case side1 => repeat (first | exact (Kd.R_reads' HO_374000.out).2.2 | (with_reducible refine Kd.C_alloc ?_ _) | (with_reducible refine Kd.C_drewN ?_ _) | (with_reducible refine Kd.C_drew ?_))); (case side2 => exact (Kd.R_reads' HO_374000.out).2.1); (case side3 => repeat (first | exact (Kd.R_reads' HO_374001.out).2.2 | (with_reducible refine Kd.C_alloc ?_ _) | (with_reducible refine Kd.C_drewN ?_ _) | (with_reducible refine Kd.C_drew ?_))); (case side4 => exact (Kd.R_reads' HO_374001.out).2.1); (case side5 => repeat (first | exact (Kd.R_reads' HO_382000.out).2.2 | (with_reducible refine Kd.C_alloc ?_ _) | (with_reducible refine Kd.C_drewN ?_ _) | (with_reducible refine Kd.C_drew ?_))); (case side6 => exact (Kd.R_reads' HO_382000.out).2.1); (case side7 => repeat (first | exact (Kd.R_reads' HO_382001.out).2.2 | (with_reducible refine Kd.C_alloc ?_ _) | (with_reducible refine Kd.C_drewN ?_ _) | (with_reducible refine Kd.C_drew ?_))); (case side8 => exact (Kd.R_reads' HO_382001.out).2.1); rintro e w61 ⟨rfl, hb⟩; have n0_ := Aside0.mk (Kd.V_below (mvV_ HO_8.out) hb); have n1_ := Aside0.mk (Kd.R_below (mvR_ HO_374000.out) hb); have n2_ := Aside0.mk (Kd.R_below (mvR_ HO_374001.out) hb); have n3_ := Aside0.mk (Kd.R_below (mvR_ HO_382000.out) hb); have n4_ := Aside0.mk (Kd.R_below (mvR_ HO_382001.out) hb); have n5_ := Aside0.mk (blk_below (g := gb373) (o := .cells #[.slice Ao22 t366.length co22, .slice Ao24 t369.length co24] 25 (0, 0)) (mvK_ BK373.out) hb); have n6_ := Aside0.mk (blk_below (g := gb381) (o := .cells #[.slice Ao28 t374.length co28, .slice Ao31 t377.length co31] 25 (0, 0)) (mvK_ BK381.out) hb); have n7_ := Aside0.mk (below_step (bq2_ HB.out GE373.out GE381.out) hb); clear HO_8; clear HO_374000; clear HO_374001; clear HO_382000; clear HO_382001; clear BK373; clear BK381; clear HB; have HO_8 := n0_; have HO_374000 := n1_; have HO_374001 := n2_; have HO_382000 := n3_; have HO_382001 := n4_; have BK373 := n5_; have BK381 := n6_; have HB := n7_; clear n0_ n1_ n2_ n3_ n4_ n5_ n6_ n7_; (try clear hb); (try clear hb2); (try clear hk); (try clear hi)) | (go_at_call 21; (with_reducible refine (chain_Trim.calls k2 (fun k_ => (some k_ ≠ (.slice Ao22 t366.length co22 : Value).ownBlock ∧ (some k_ ≠ (.slice Ao24 t369.length co24 : Value).ownBlock ∧ (some k_ ≠ (.slice Ao28 t374.length co28 : Value).ownBlock ∧ (some k_ ≠ (.slice Ao31 t377.length co31 : Value).ownBlock ∧ (k_ ≠ gb373 ∧ k_ ≠ gb381)))))) _ _ t363 a1 t384 _ ?side1 A40.out).mono ?_); (case side1 => exact HO_8.out); rintro e w62 ⟨v385, rfl, ho0, hb⟩; have n0_ := Aside0.mk (Kd.V_below (mvV_ HO_8.out) hb); have n1_ := Aside0.mk (Kd.R_below (mvR_ HO_374000.out) hb); have n2_ := Aside0.mk (Kd.R_below (mvR_ HO_374001.out) hb); have n3_ := Aside0.mk (Kd.R_below (mvR_ HO_382000.out) hb); have n4_ := Aside0.mk (Kd.R_below (mvR_ HO_382001.out) hb); have n5_ := Aside0.mk (Kd.V_lower (Kd.V_mono (ok' := fun k_ => some k_ ≠ (.slice Ao22 t366.length co22 : Value).ownBlock ∧ some k_ ≠ (.slice Ao24 t369.length co24 : Value).ownBlock ∧ some k_ ≠ (.slice Ao28 t374.length co28 : Value).ownBlock ∧ some k_ ≠ (.slice Ao31 t377.length co31 : Value).ownBlock ∧ k_ ≠ gb373 ∧ k_ ≠ gb381) ho0 (fun k_ hk_ => ⟨Or.elim hk_ (fun hs_ => hs_.1) (fun hn_ => (Kd.fresh' (Kd.R_lt (mvR_ HO_374000.out)) k_ hn_)), Or.elim hk_ (fun hs_ => hs_.2.1) (fun hn_ => (Kd.fresh' (Kd.R_lt (mvR_ HO_374001.out)) k_ hn_)), Or.elim hk_ (fun hs_ => hs_.2.2.1) (fun hn_ => (Kd.fresh' (Kd.R_lt (mvR_ HO_382000.out)) k_ hn_)), Or.elim hk_ (fun hs_ => hs_.2.2.2.1) (fun hn_ => (Kd.fresh' (Kd.R_lt (mvR_ HO_382001.out)) k_ hn_)), Or.elim hk_ (fun hs_ => hs_.2.2.2.2.1) (fun hn_ => (Kd.freshB (g := gb373) (o := .cells #[.slice Ao22 t366.length co22, .slice Ao24 t369.length co24] 25 (0, 0)) (mvK_ BK373.out) k_ hn_)), Or.elim hk_ (fun hs_ => hs_.2.2.2.2.2) (fun hn_ => (Kd.freshB (g := gb381) (o := .cells #[.slice Ao28 t374.length co28, .slice Ao31 t377.length co31] 25 (0, 0)) (mvK_ BK381.out) k_ hn_))⟩)) (below_size (bq2_ HB.out GE373.out GE381.out))); have n6_ := Aside0.mk (blk_below (g := gb373) (o := .cells #[.slice Ao22 t366.length co22, .slice Ao24 t369.length co24] 25 (0, 0)) (mvK_ BK373.out) hb); have n7_ := Aside0.mk (blk_below (g := gb381) (o := .cells #[.slice Ao28 t374.length co28, .slice Ao31 t377.length co31] 25 (0, 0)) (mvK_ BK381.out) hb); have n8_ := Aside0.mk (below_step (bq2_ HB.out GE373.out GE381.out) hb); clear HO_8; clear HO_374000; clear HO_374001; clear HO_382000; clear HO_382001; clear BK373; clear BK381; clear HB; have HO_8 := n0_; have HO_374000 := n1_; have HO_374001 := n2_; have HO_382000 := n3_; have HO_382001 := n4_; have HO386 := n5_; have BK373 := n6_; have BK381 := n7_; have HB := n8_; clear n0_ n1_ n2_ n3_ n4_ n5_ n6_ n7_ n8_; (try clear hb); (try clear hb2); (try clear hk); (try clear hi); (try clear ho0); obtain ⟨Ao63, co63, eo63⟩ := Kd.V_slice HO386.out; subst eo63) | (go_at_call 16; (with_reducible refine (fullerref17_Same.calls k2 _ _ t384 _ _ t363 true _ ?side1 ?side2 ?side3 ?side4 A41.out).mono ?_); (case side1 => repeat (first | exact (Kd.V_reads' HO386.out).2.2 | (with_reducible refine Kd.C_alloc ?_ _) | (with_reducible refine Kd.C_drewN ?_ _) | (with_reducible refine Kd.C_drew ?_))); (case side2 => exact (Kd.V_reads' HO386.out).2.1); (case side3 => repeat (first | exact (Kd.V_reads' HO_8.out).2.2 | (with_reducible refine Kd.C_alloc ?_ _) | (with_reducible refine Kd.C_drewN ?_ _) | (with_reducible refine Kd.C_drew ?_))); (case side4 => exact (Kd.V_reads' HO_8.out).2.1); rintro e w64 ⟨rfl, hb⟩; have n0_ := Aside0.mk (Kd.V_below (mvV_ HO_8.out) hb); have n1_ := Aside0.mk (Kd.R_below (mvR_ HO_374000.out) hb); have n2_ := Aside0.mk (Kd.R_below (mvR_ HO_374001.out) hb); have n3_ := Aside0.mk (Kd.R_below (mvR_ HO_382000.out) hb); have n4_ := Aside0.mk (Kd.R_below (mvR_ HO_382001.out) hb); have n5_ := Aside0.mk (Kd.V_below (mvV_ HO386.out) hb); have n6_ := Aside0.mk (blk_below (g := gb373) (o := .cells #[.slice Ao22 t366.length co22, .slice Ao24 t369.length co24] 25 (0, 0)) (mvK_ BK373.out) hb); have n7_ := Aside0.mk (blk_below (g := gb381) (o := .cells #[.slice Ao28 t374.length co28, .slice Ao31 t377.length co31] 25 (0, 0)) (mvK_ BK381.out) hb); have n8_ := Aside0.mk (below_step (bq2_ HB.out GE373.out GE381.out) hb); clear HO_8; clear HO_374000; clear HO_374001; clear HO_382000; clear HO_382001; clear HO386; clear BK373; clear BK381; clear HB; have HO_8 := n0_; have HO_374000 := n1_; have HO_374001 := n2_; have HO_382000 := n3_; have HO_382001 := n4_; have HO386 := n5_; have BK373 := n6_; have BK381 := n7_; have HB := n8_; clear n0_ n1_ n2_ n3_ n4_ n5_ n6_ n7_ n8_; (try clear hb); (try clear hb2); (try clear hk); (try clear hi)) | (go_at_call 17; (with_reducible refine (chain_Check.calls k2 _ _ t363 true _ ?side1 ?side2 A43.out).mono ?_); (case side1 => repeat (first | exact (Kd.V_reads' HO_8.out).2.2 | (with_reducible refine Kd.C_alloc ?_ _) | (with_reducible refine Kd.C_drewN ?_ _) | (with_reducible refine Kd.C_drew ?_))); (case side2 => exact (Kd.V_reads' HO_8.out).2.1); rintro e w65 ⟨rfl, hb⟩; have n0_ := Aside0.mk (Kd.V_below (mvV_ HO_8.out) hb); have n1_ := Aside0.mk (Kd.R_below (mvR_ HO_374000.out) hb); have n2_ := Aside0.mk (Kd.R_below (mvR_ HO_374001.out) hb); have n3_ := Aside0.mk (Kd.R_below (mvR_ HO_382000.out) hb); have n4_ := Aside0.mk (Kd.R_below (mvR_ HO_382001.out) hb); have n5_ := Aside0.mk (Kd.V_below (mvV_ HO386.out) hb); have n6_ := Aside0.mk (blk_below (g := gb373) (o := .cells #[.slice Ao22 t366.length co22, .slice Ao24 t369.length co24] 25 (0, 0)) (mvK_ BK373.out) hb); have n7_ := Aside0.mk (blk_below (g := gb381) (o := .cells #[.slice Ao28 t374.length co28, .slice Ao31 t377.length co31] 25 (0, 0)) (mvK_ BK381.out) hb); have n8_ := Aside0.mk (below_step (bq2_ HB.out GE373.out GE381.out) hb); clear HO_8; clear HO_374000; clear HO_374001; clear HO_382000; clear HO_382001; clear HO386; clear BK373; clear BK381; clear HB; have HO_8 := n0_; have HO_374000 := n1_; have HO_374001 := n2_; have HO_382000 := n3_; have HO_382001 := n4_; have HO386 := n5_; have BK373 := n6_; have BK381 := n7_; have HB := n8_; clear n0_ n1_ n2_ n3_ n4_ n5_ n6_ n7_ n8_; (try clear hb); (try clear hb2); (try clear hk); (try clear hi)))
              go_ret
              exact ⟨by first | rfl | (simp [errW_none, errW_some] <;> rfl) | (simp only [← hji15]; first | rfl | (simp [errW_none, errW_some] <;> rfl)) | (simp [*, errW_none, errW_some] <;> rfl), by repeat (first | (with_reducible first | exact HB.out | apply below_alloc | apply pw_below_drewN | apply below_drew1 | refine below_set ?_ GE373.out | refine below_set ?_ GE381.out) | exact HB.out)⟩
            ·replace c44 := Bool.eq_false_iff.mpr c44
             subst c44
             have H1 : (some false) = some r := by rw [if_neg (show ¬ (false = true) by decide)] at H; exact H
             clear H
             have H := H1
             clear H1
             obtain rfl := Option.some.inj H
             have hnb66 := NB373_381.out
             have hnc66 := NB381_373.out
             have hcz67_0 : wr.cell? ⟨gb373, 0, none⟩ = some (.slice Ao22 t366.length co22) := (blk_cell BK373.out 0).trans rfl
             have hcz67_1 : wr.cell? ⟨gb373, 1, none⟩ = some (.slice Ao24 t369.length co24) := (blk_cell BK373.out 1).trans rfl
             have hfz67_0 := blk_frozen BK373.out 0
             have hfz67_1 := blk_frozen BK373.out 1
             have hcz68_0 : wr.cell? ⟨gb381, 0, none⟩ = some (.slice Ao28 t374.length co28) := (blk_cell BK381.out 0).trans rfl
             have hcz68_1 : wr.cell? ⟨gb381, 1, none⟩ = some (.slice Ao31 t377.length co31) := (blk_cell BK381.out 1).trans rfl
             have hfz68_0 := blk_frozen BK381.out 0
             have hfz68_1 := blk_frozen BK381.out 1
             go_wp2_with (first | (go_at_call 15; (with_reducible refine (fullerref03_Same.calls k2 _ _ t366 _ _ t369 _ _ t374 _ _ t377 true _ ?side1 ?side2 ?side3 ?side4 ?side5 ?side6 ?side7 ?side8 A37.out).mono ?_); (case side1 => repeat (first | exact (Kd.R_reads' HO_374000.out).2.2 | (with_reducible refine Kd.C_alloc ?_ _) | (with_reducible refine Kd.C_drewN ?_ _) | (with_reducible refine Kd.C_drew ?_))); (case side2 => exact (Kd.R_reads' HO_374000.out).2.1); (case side3 => repeat (first | exact (Kd.R_reads' HO_374001.out).2.2 | (with_reducible refine Kd.C_alloc ?_ _) | (with_reducible refine Kd.C_drewN ?_ _) | (with_reducible refine Kd.C_drew ?_))); (case side4 => exact (Kd.R_reads' HO_374001.out).2.1); (case side5 => repeat (first | exact (Kd.R_reads' HO_382000.out).2.2 | (with_reducible refine Kd.C_alloc ?_ _) | (with_reducible refine Kd.C_drewN ?_ _) | (with_reducible refine Kd.C_drew ?_))); (case side6 => exact (Kd.R_reads' HO_382000.out).2.1); (case side7 => repeat (first | exact (Kd.R_reads' HO_382001.out).2.2 | (with_reducible refine Kd.C_alloc ?_ _) | (with_reducible refine Kd.C_drewN ?_ _) | (with_reducible refine Kd.C_drew ?_))); (case side8 => exact (Kd.R_reads' HO_382001.out).2.1); rintro e w69 ⟨rfl, hb⟩; have n0_ := Aside0.mk (Kd.V_below (mvV_ HO_8.out) hb); have n1_ := Aside0.mk (Kd.R_below (mvR_ HO_374000.out) hb); have n2_ := Aside0.mk (Kd.R_below (mvR_ HO_374001.out) hb); have n3_ := Aside0.mk (Kd.R_below (mvR_ HO_382000.out) hb); have n4_ := Aside0.mk (Kd.R_below (mvR_ HO_382001.out) hb); have n5_ := Aside0.mk (blk_below (g := gb373) (o := .cells #[.slice Ao22 t366.length co22, .slice Ao24 t369.length co24] 25 (0, 0)) (mvK_ BK373.out) hb); have n6_ := Aside0.mk (blk_below (g := gb381) (o := .cells #[.slice Ao28 t374.length co28, .slice Ao31 t377.length co31] 25 (0, 0)) (mvK_ BK381.out) hb); have n7_ := Aside0.mk (below_step (bq2_ HB.out GE373.out GE381.out) hb); clear HO_8; clear HO_374000; clear HO_374001; clear HO_382000; clear HO_382001; clear BK373; clear BK381; clear HB; have HO_8 := n0_; have HO_374000 := n1_; have HO_374001 := n2_; have HO_382000 := n3_; have HO_382001 := n4_; have BK373 := n5_; have BK381 := n6_; have HB := n7_; clear n0_ n1_ n2_ n3_ n4_ n5_ n6_ n7_; (try clear hb); (try clear hb2); (try clear hk); (try clear hi)) | (go_at_call 21; (with_reducible refine (chain_Trim.calls k2 (fun k_ => (some k_ ≠ (.slice Ao22 t366.length co22 : Value).ownBlock ∧ (some k_ ≠ (.slice Ao24 t369.length co24 : Value).ownBlock ∧ (some k_ ≠ (.slice Ao28 t374.length co28 : Value).ownBlock ∧ (some k_ ≠ (.slice Ao31 t377.length co31 : Value).ownBlock ∧ (k_ ≠ gb373 ∧ k_ ≠ gb381)))))) _ _ t363 a1 t384 _ ?side1 A40.out).mono ?_); (case side1 => exact HO_8.out); rintro e w70 ⟨v385, rfl, ho0, hb⟩; have n0_ := Aside0.mk (Kd.V_below (mvV_ HO_8.out) hb); have n1_ := Aside0.mk (Kd.R_below (mvR_ HO_374000.out) hb); have n2_ := Aside0.mk (Kd.R_below (mvR_ HO_374001.out) hb); have n3_ := Aside0.mk (Kd.R_below (mvR_ HO_382000.out) hb); have n4_ := Aside0.mk (Kd.R_below (mvR_ HO_382001.out) hb); have n5_ := Aside0.mk (Kd.V_lower (Kd.V_mono (ok' := fun k_ => some k_ ≠ (.slice Ao22 t366.length co22 : Value).ownBlock ∧ some k_ ≠ (.slice Ao24 t369.length co24 : Value).ownBlock ∧ some k_ ≠ (.slice Ao28 t374.length co28 : Value).ownBlock ∧ some k_ ≠ (.slice Ao31 t377.length co31 : Value).ownBlock ∧ k_ ≠ gb373 ∧ k_ ≠ gb381) ho0 (fun k_ hk_ => ⟨Or.elim hk_ (fun hs_ => hs_.1) (fun hn_ => (Kd.fresh' (Kd.R_lt (mvR_ HO_374000.out)) k_ hn_)), Or.elim hk_ (fun hs_ => hs_.2.1) (fun hn_ => (Kd.fresh' (Kd.R_lt (mvR_ HO_374001.out)) k_ hn_)), Or.elim hk_ (fun hs_ => hs_.2.2.1) (fun hn_ => (Kd.fresh' (Kd.R_lt (mvR_ HO_382000.out)) k_ hn_)), Or.elim hk_ (fun hs_ => hs_.2.2.2.1) (fun hn_ => (Kd.fresh' (Kd.R_lt (mvR_ HO_382001.out)) k_ hn_)), Or.elim hk_ (fun hs_ => hs_.2.2.2.2.1) (fun hn_ => (Kd.freshB (g := gb373) (o := .cells #[.slice Ao22 t366.length co22, .slice Ao24 t369.length co24] 25 (0, 0)) (mvK_ BK373.out) k_ hn_)), Or.elim hk_ (fun hs_ => hs_.2.2.2.2.2) (fun hn_ => (Kd.freshB (g := gb381) (o := .cells #[.slice Ao28 t374.length co28, .slice Ao31 t377.length co31] 25 (0, 0)) (mvK_ BK381.out) k_ hn_))⟩)) (below_size (bq2_ HB.out GE373.out GE381.out))); have n6_ := Aside0.mk (blk_below (g := gb373) (o := .cells #[.slice Ao22 t366.length co22, .slice Ao24 t369.length co24] 25 (0, 0)) (mvK_ BK373.out) hb); have n7_ := Aside0.mk (blk_below (g := gb381) (o := .cells #[.slice Ao28 t374.length co28, .slice Ao31 t377.length co31] 25 (0, 0)) (mvK_ BK381.out) hb); have n8_ := Aside0.mk (below_step (bq2_ HB.out GE373.out GE381.out) hb); clear HO_8; clear HO_374000; clear HO_374001; clear HO_382000; clear HO_382001; clear BK373; clear BK381; clear HB; have HO_8 := n0_; have HO_374000 := n1_; have HO_374001 := n2_; have HO_382000 := n3_; have HO_382001 := n4_; have HO386 := n5_; have BK373 := n6_; have BK381 := n7_; have HB := n8_; clear n0_ n1_ n2_ n3_ n4_ n5_ n6_ n7_ n8_; (try clear hb); (try clear hb2); (try clear hk); (try clear hi); (try clear ho0); obtain ⟨Ao71, co71, eo71⟩ := Kd.V_slice HO386.out; subst eo71) | (go_at_call 16; (with_reducible refine (fullerref17_Same.calls k2 _ _ t384 _ _ t363 true _ ?side1 ?side2 ?side3 ?side4 A41.out).mono ?_); (case side1 => repeat (first | exact (Kd.V_reads' HO386.out).2.2 | (with_reducible refine Kd.C_alloc ?_ _) | (with_reducible refine Kd.C_drewN ?_ _) | (with_reducible refine Kd.C_drew ?_))); (case side2 => exact (Kd.V_reads' HO386.out).2.1); (case side3 => repeat (first | exact (Kd.V_reads' HO_8.out).2.2 | (with_reducible refine Kd.C_alloc ?_ _) | (with_reducible refine Kd.C_drewN ?_ _) | (with_reducible refine Kd.C_drew ?_))); (case side4 => exact (Kd.V_reads' HO_8.out).2.1); rintro e w72 ⟨rfl, hb⟩; have n0_ := Aside0.mk (Kd.V_below (mvV_ HO_8.out) hb); have n1_ := Aside0.mk (Kd.R_below (mvR_ HO_374000.out) hb); have n2_ := Aside0.mk (Kd.R_below (mvR_ HO_374001.out) hb); have n3_ := Aside0.mk (Kd.R_below (mvR_ HO_382000.out) hb); have n4_ := Aside0.mk (Kd.R_below (mvR_ HO_382001.out) hb); have n5_ := Aside0.mk (Kd.V_below (mvV_ HO386.out) hb); have n6_ := Aside0.mk (blk_below (g := gb373) (o := .cells #[.slice Ao22 t366.length co22, .slice Ao24 t369.length co24] 25 (0, 0)) (mvK_ BK373.out) hb); have n7_ := Aside0.mk (blk_below (g := gb381) (o := .cells #[.slice Ao28 t374.length co28, .slice Ao31 t377.length co31] 25 (0, 0)) (mvK_ BK381.out) hb); have n8_ := Aside0.mk (below_step (bq2_ HB.out GE373.out GE381.out) hb); clear HO_8; clear HO_374000; clear HO_374001; clear HO_382000; clear HO_382001; clear HO386; clear BK373; clear BK381; clear HB; have HO_8 := n0_; have HO_374000 := n1_; have HO_374001 := n2_; have HO_382000 := n3_; have HO_382001 := n4_; have HO386 := n5_; have BK373 := n6_; have BK381 := n7_; have HB := n8_; clear n0_ n1_ n2_ n3_ n4_ n5_ n6_ n7_ n8_; (try clear hb); (try clear hb2); (try clear hk); (try clear hi)) | (go_at_call 17; (with_reducible refine (chain_Check.calls k2 _ _ t363 false _ ?side1 ?side2 A43.out).mono ?_); (case side1 => repeat (first | exact (Kd.V_reads' HO_8.out).2.2 | (with_reducible refine Kd.C_alloc ?_ _) | (with_reducible refine Kd.C_drewN ?_ _) | (with_reducible refine Kd.C_drew ?_))); (case side2 => exact (Kd.V_reads' HO_8.out).2.1); rintro e w73 ⟨rfl, hb⟩; have n0_ := Aside0.mk (Kd.V_below (mvV_ HO_8.out) hb); have n1_ := Aside0.mk (Kd.R_below (mvR_ HO_374000.out) hb); have n2_ := Aside0.mk (Kd.R_below (mvR_ HO_374001.out) hb); have n3_ := Aside0.mk (Kd.R_below (mvR_ HO_382000.out) hb); have n4_ := Aside0.mk (Kd.R_below (mvR_ HO_382001.out) hb); have n5_ := Aside0.mk (Kd.V_below (mvV_ HO386.out) hb); have n6_ := Aside0.mk (blk_below (g := gb373) (o := .cells #[.slice Ao22 t366.length co22, .slice Ao24 t369.length co24] 25 (0, 0)) (mvK_ BK373.out) hb); have n7_ := Aside0.mk (blk_below (g := gb381) (o := .cells #[.slice Ao28 t374.length co28, .slice Ao31 t377.length co31] 25 (0, 0)) (mvK_ BK381.out) hb); have n8_ := Aside0.mk (below_step (bq2_ HB.out GE373.out GE381.out) hb); clear HO_8; clear HO_374000; clear HO_374001; clear HO_382000; clear HO_382001; clear HO386; clear BK373; clear BK381; clear HB; have HO_8 := n0_; have HO_374000 := n1_; have HO_374001 := n2_; have HO_382000 := n3_; have HO_382001 := n4_; have HO386 := n5_; have BK373 := n6_; have BK381 := n7_; have HB := n8_; clear n0_ n1_ n2_ n3_ n4_ n5_ n6_ n7_ n8_; (try clear hb); (try clear hb2); (try clear hk); (try clear hi)))
             go_ret
             exact ⟨by first | rfl | (simp [errW_none, errW_some] <;> rfl) | (simp only [← hji15]; first | rfl | (simp [errW_none, errW_some] <;> rfl)) | (simp [*, errW_none, errW_some] <;> rfl), by repeat (first | (with_reducible first | exact HB.out | apply below_alloc | apply pw_below_drewN | apply below_drew1 | refine below_set ?_ GE373.out | refine below_set ?_ GE381.out) | exact HB.out)⟩
           ·replace c42 := Bool.eq_false_iff.mpr c42
            subst c42
            have H1 : (some false) = some r := by rw [if_neg (show ¬ (false = true) by decide)] at H; exact H
            clear H
            have H := H1
            clear H1
            obtain rfl := Option.some.inj H
            have hnb74 := NB373_381.out
            have hnc74 := NB381_373.out
            have hcz75_0 : wr.cell? ⟨gb373, 0, none⟩ = some (.slice Ao22 t366.length co22) := (blk_cell BK373.out 0).trans rfl
            have hcz75_1 : wr.cell? ⟨gb373, 1, none⟩ = some (.slice Ao24 t369.length co24) := (blk_cell BK373.out 1).trans rfl
            have hfz75_0 := blk_frozen BK373.out 0
            have hfz75_1 := blk_frozen BK373.out 1
            have hcz76_0 : wr.cell? ⟨gb381, 0, none⟩ = some (.slice Ao28 t374.length co28) := (blk_cell BK381.out 0).trans rfl
            have hcz76_1 : wr.cell? ⟨gb381, 1, none⟩ = some (.slice Ao31 t377.length co31) := (blk_cell BK381.out 1).trans rfl
            have hfz76_0 := blk_frozen BK381.out 0
            have hfz76_1 := blk_frozen BK381.out 1
            go_wp2_with (first | (go_at_call 15; (with_reducible refine (fullerref03_Same.calls k2 _ _ t366 _ _ t369 _ _ t374 _ _ t377 true _ ?side1 ?side2 ?side3 ?side4 ?side5 ?side6 ?side7 ?side8 A37.out).mono ?_); (case side1 => repeat (first | exact (Kd.R_reads' HO_374000.out).2.2 | (with_reducible refine Kd.C_alloc ?_ _) | (with_reducible refine Kd.C_drewN ?_ _) | (with_reducible refine Kd.C_drew ?_))); (case side2 => exact (Kd.R_reads' HO_374000.out).2.1); (case side3 => repeat (first | exact (Kd.R_reads' HO_374001.out).2.2 | (with_reducible refine Kd.C_alloc ?_ _) | (with_reducible refine Kd.C_drewN ?_ _) | (with_reducible refine Kd.C_drew ?_))); (case side4 => exact (Kd.R_reads' HO_374001.out).2.1); (case side5 => repeat (first | exact (Kd.R_reads' HO_382000.out).2.2 | (with_reducible refine Kd.C_alloc ?_ _) | (with_reducible refine Kd.C_drewN ?_ _) | (with_reducible refine Kd.C_drew ?_))); (case side6 => exact (Kd.R_reads' HO_382000.out).2.1); (case side7 => repeat (first | exact (Kd.R_reads' HO_382001.out).2.2 | (with_reducible refine Kd.C_alloc ?_ _) | (with_reducible refine Kd.C_drewN ?_ _) | (with_reducible refine Kd.C_drew ?_))); (case side8 => exact (Kd.R_reads' HO_382001.out).2.1); rintro e w77 ⟨rfl, hb⟩; have n0_ := Aside0.mk (Kd.V_below (mvV_ HO_8.out) hb); have n1_ := Aside0.mk (Kd.R_below (mvR_ HO_374000.out) hb); have n2_ := Aside0.mk (Kd.R_below (mvR_ HO_374001.out) hb); have n3_ := Aside0.mk (Kd.R_below (mvR_ HO_382000.out) hb); have n4_ := Aside0.mk (Kd.R_below (mvR_ HO_382001.out) hb); have n5_ := Aside0.mk (blk_below (g := gb373) (o := .cells #[.slice Ao22 t366.length co22, .slice Ao24 t369.length co24] 25 (0, 0)) (mvK_ BK373.out) hb); have n6_ := Aside0.mk (blk_below (g := gb381) (o := .cells #[.slice Ao28 t374.length co28, .slice Ao31 t377.length co31] 25 (0, 0)) (mvK_ BK381.out) hb); have n7_ := Aside0.mk (below_step (bq2_ HB.out GE373.out GE381.out) hb); clear HO_8; clear HO_374000; clear HO_374001; clear HO_382000; clear HO_382001; clear BK373; clear BK381; clear HB; have HO_8 := n0_; have HO_374000 := n1_; have HO_374001 := n2_; have HO_382000 := n3_; have HO_382001 := n4_; have BK373 := n5_; have BK381 := n6_; have HB := n7_; clear n0_ n1_ n2_ n3_ n4_ n5_ n6_ n7_; (try clear hb); (try clear hb2); (try clear hk); (try clear hi)) | (go_at_call 21; (with_reducible refine (chain_Trim.calls k2 (fun k_ => (some k_ ≠ (.slice Ao22 t366.length co22 : Value).ownBlock ∧ (some k_ ≠ (.slice Ao24 t369.length co24 : Value).ownBlock ∧ (some k_ ≠ (.slice Ao28 t374.length co28 : Value).ownBlock ∧ (some k_ ≠ (.slice Ao31 t377.length co31 : Value).ownBlock ∧ (k_ ≠ gb373 ∧ k_ ≠ gb381)))))) _ _ t363 a1 t384 _ ?side1 A40.out).mono ?_); (case side1 => exact HO_8.out); rintro e w78 ⟨v385, rfl, ho0, hb⟩; have n0_ := Aside0.mk (Kd.V_below (mvV_ HO_8.out) hb); have n1_ := Aside0.mk (Kd.R_below (mvR_ HO_374000.out) hb); have n2_ := Aside0.mk (Kd.R_below (mvR_ HO_374001.out) hb); have n3_ := Aside0.mk (Kd.R_below (mvR_ HO_382000.out) hb); have n4_ := Aside0.mk (Kd.R_below (mvR_ HO_382001.out) hb); have n5_ := Aside0.mk (Kd.V_lower (Kd.V_mono (ok' := fun k_ => some k_ ≠ (.slice Ao22 t366.length co22 : Value).ownBlock ∧ some k_ ≠ (.slice Ao24 t369.length co24 : Value).ownBlock ∧ some k_ ≠ (.slice Ao28 t374.length co28 : Value).ownBlock ∧ some k_ ≠ (.slice Ao31 t377.length co31 : Value).ownBlock ∧ k_ ≠ gb373 ∧ k_ ≠ gb381) ho0 (fun k_ hk_ => ⟨Or.elim hk_ (fun hs_ => hs_.1) (fun hn_ => (Kd.fresh' (Kd.R_lt (mvR_ HO_374000.out)) k_ hn_)), Or.elim hk_ (fun hs_ => hs_.2.1) (fun hn_ => (Kd.fresh' (Kd.R_lt (mvR_ HO_374001.out)) k_ hn_)), Or.elim hk_ (fun hs_ => hs_.2.2.1) (fun hn_ => (Kd.fresh' (Kd.R_lt (mvR_ HO_382000.out)) k_ hn_)), Or.elim hk_ (fun hs_ => hs_.2.2.2.1) (fun hn_ => (Kd.fresh' (Kd.R_lt (mvR_ HO_382001.out)) k_ hn_)), Or.elim hk_ (fun hs_ => hs_.2.2.2.2.1) (fun hn_ => (Kd.freshB (g := gb373) (o := .cells #[.slice Ao22 t366.length co22, .slice Ao24 t369.length co24] 25 (0, 0)) (mvK_ BK373.out) k_ hn_)), Or.elim hk_ (fun hs_ => hs_.2.2.2.2.2) (fun hn_ => (Kd.freshB (g := gb381) (o := .cells #[.slice Ao28 t374.length co28, .slice Ao31 t377.length co31] 25 (0, 0)) (mvK_ BK381.out) k_ hn_))⟩)) (below_size (bq2_ HB.out GE373.out GE381.out))); have n6_ := Aside0.mk (blk_below (g := gb373) (o := .cells #[.slice Ao22 t366.length co22, .slice Ao24 t369.length co24] 25 (0, 0)) (mvK_ BK373.out) hb); have n7_ := Aside0.mk (blk_below (g := gb381) (o := .cells #[.slice Ao28 t374.length co28, .slice Ao31 t377.length co31] 25 (0, 0)) (mvK_ BK381.out) hb); have n8_ := Aside0.mk (below_step (bq2_ HB.out GE373.out GE381.out) hb); clear HO_8; clear HO_374000; clear HO_374001; clear HO_382000; clear HO_382001; clear BK373; clear BK381; clear HB; have HO_8 := n0_; have HO_374000 := n1_; have HO_374001 := n2_; have HO_382000 := n3_; have HO_382001 := n4_; have HO386 := n5_; have BK373 := n6_; have BK381 := n7_; have HB := n8_; clear n0_ n1_ n2_ n3_ n4_ n5_ n6_ n7_ n8_; (try clear hb); (try clear hb2); (try clear hk); (try clear hi); (try clear ho0); obtain ⟨Ao79, co79, eo79⟩ := Kd.V_slice HO386.out; subst eo79) | (go_at_call 16; (with_reducible refine (fullerref17_Same.calls k2 _ _ t384 _ _ t363 false _ ?side1 ?side2 ?side3 ?side4 A41.out).mono ?_); (case side1 => repeat (first | exact (Kd.V_reads' HO386.out).2.2 | (with_reducible refine Kd.C_alloc ?_ _) | (with_reducible refine Kd.C_drewN ?_ _) | (with_reducible refine Kd.C_drew ?_))); (case side2 => exact (Kd.V_reads' HO386.out).2.1); (case side3 => repeat (first | exact (Kd.V_reads' HO_8.out).2.2 | (with_reducible refine Kd.C_alloc ?_ _) | (with_reducible refine Kd.C_drewN ?_ _) | (with_reducible refine Kd.C_drew ?_))); (case side4 => exact (Kd.V_reads' HO_8.out).2.1); rintro e w80 ⟨rfl, hb⟩; have n0_ := Aside0.mk (Kd.V_below (mvV_ HO_8.out) hb); have n1_ := Aside0.mk (Kd.R_below (mvR_ HO_374000.out) hb); have n2_ := Aside0.mk (Kd.R_below (mvR_ HO_374001.out) hb); have n3_ := Aside0.mk (Kd.R_below (mvR_ HO_382000.out) hb); have n4_ := Aside0.mk (Kd.R_below (mvR_ HO_382001.out) hb); have n5_ := Aside0.mk (Kd.V_below (mvV_ HO386.out) hb); have n6_ := Aside0.mk (blk_below (g := gb373) (o := .cells #[.slice Ao22 t366.length co22, .slice Ao24 t369.length co24] 25 (0, 0)) (mvK_ BK373.out) hb); have n7_ := Aside0.mk (blk_below (g := gb381) (o := .cells #[.slice Ao28 t374.length co28, .slice Ao31 t377.length co31] 25 (0, 0)) (mvK_ BK381.out) hb); have n8_ := Aside0.mk (below_step (bq2_ HB.out GE373.out GE381.out) hb); clear HO_8; clear HO_374000; clear HO_374001; clear HO_382000; clear HO_382001; clear HO386; clear BK373; clear BK381; clear HB; have HO_8 := n0_; have HO_374000 := n1_; have HO_374001 := n2_; have HO_382000 := n3_; have HO_382001 := n4_; have HO386 := n5_; have BK373 := n6_; have BK381 := n7_; have HB := n8_; clear n0_ n1_ n2_ n3_ n4_ n5_ n6_ n7_ n8_; (try clear hb); (try clear hb2); (try clear hk); (try clear hi)))
            go_ret
            exact ⟨by first | rfl | (simp [errW_none, errW_some] <;> rfl) | (simp only [← hji15]; first | rfl | (simp [errW_none, errW_some] <;> rfl)) | (simp [*, errW_none, errW_some] <;> rfl), by repeat (first | (with_reducible first | exact HB.out | apply below_alloc | apply pw_below_drewN | apply below_drew1 | refine below_set ?_ GE373.out | refine below_set ?_ GE381.out) | exact HB.out)⟩
          ·rw [if_neg c39] at H
           have c39b0 : decide (x13_2 ≤ 1) = false := decide_eq_false c39
           clear c39
           obtain rfl := Option.some.inj H
           have hnb81 := NB373_381.out
           have hnc81 := NB381_373.out
           have hcz82_0 : wr.cell? ⟨gb373, 0, none⟩ = some (.slice Ao22 t366.length co22) := (blk_cell BK373.out 0).trans rfl
           have hcz82_1 : wr.cell? ⟨gb373, 1, none⟩ = some (.slice Ao24 t369.length co24) := (blk_cell BK373.out 1).trans rfl
           have hfz82_0 := blk_frozen BK373.out 0
           have hfz82_1 := blk_frozen BK373.out 1
           have hcz83_0 : wr.cell? ⟨gb381, 0, none⟩ = some (.slice Ao28 t374.length co28) := (blk_cell BK381.out 0).trans rfl
           have hcz83_1 : wr.cell? ⟨gb381, 1, none⟩ = some (.slice Ao31 t377.length co31) := (blk_cell BK381.out 1).trans rfl
           have hfz83_0 := blk_frozen BK381.out 0
           have hfz83_1 := blk_frozen BK381.out 1
           go_wp2_with (first | (go_at_call 15; (with_reducible refine (fullerref03_Same.calls k2 _ _ t366 _ _ t369 _ _ t374 _ _ t377 true _ ?side1 ?side2 ?side3 ?side4 ?side5 ?side6 ?side7 ?side8 A37.out).mono ?_); (case side1 => repeat (first | exact (Kd.R_reads' HO_374000.out).2.2 | (with_reducible refine Kd.C_alloc ?_ _) | (with_reducible refine Kd.C_drewN ?_ _) | (with_reducible refine Kd.C_drew ?_))); (case side2 => exact (Kd.R_reads' HO_374000.out).2.1); (case side3 => repeat (first | exact (Kd.R_reads' HO_374001.out).2.2 | (with_reducible refine Kd.C_alloc ?_ _) | (with_reducible refine Kd.C_drewN ?_ _) | (with_reducible refine Kd.C_drew ?_))); (case side4 => exact (Kd.R_reads' HO_374001.out).2.1); (case side5 => repeat (first | exact (Kd.R_reads' HO_382000.out).2.2 | (with_reducible refine Kd.C_alloc ?_ _) | (with_reducible refine Kd.C_drewN ?_ _) | (with_reducible refine Kd.C_drew ?_))); (case side6 => exact (Kd.R_reads' HO_382000.out).2.1); (case side7 => repeat (first | exact (Kd.R_reads' HO_382001.out).2.2 | (with_reducible refine Kd.C_alloc ?_ _) | (with_reducible refine Kd.C_drewN ?_ _) | (with_reducible refine Kd.C_drew ?_))); (case side8 => exact (Kd.R_reads' HO_382001.out).2.1); rintro e w84 ⟨rfl, hb⟩; have n0_ := Aside0.mk (Kd.V_below (mvV_ HO_8.out) hb); have n1_ := Aside0.mk (Kd.R_below (mvR_ HO_374000.out) hb); have n2_ := Aside0.mk (Kd.R_below (mvR_ HO_374001.out) hb); have n3_ := Aside0.mk (Kd.R_below (mvR_ HO_382000.out) hb); have n4_ := Aside0.mk (Kd.R_below (mvR_ HO_382001.out) hb); have n5_ := Aside0.mk (blk_below (g := gb373) (o := .cells #[.slice Ao22 t366.length co22, .slice Ao24 t369.length co24] 25 (0, 0)) (mvK_ BK373.out) hb); have n6_ := Aside0.mk (blk_below (g := gb381) (o := .cells #[.slice Ao28 t374.length co28, .slice Ao31 t377.length co31] 25 (0, 0)) (mvK_ BK381.out) hb); have n7_ := Aside0.mk (below_step (bq2_ HB.out GE373.out GE381.out) hb); clear HO_8; clear HO_374000; clear HO_374001; clear HO_382000; clear HO_382001; clear BK373; clear BK381; clear HB; have HO_8 := n0_; have HO_374000 := n1_; have HO_374001 := n2_; have HO_382000 := n3_; have HO_382001 := n4_; have BK373 := n5_; have BK381 := n6_; have HB := n7_; clear n0_ n1_ n2_ n3_ n4_ n5_ n6_ n7_; (try clear hb); (try clear hb2); (try clear hk); (try clear hi)))
           go_ret
           exact ⟨by first | rfl | (simp [errW_none, errW_some] <;> rfl) | (simp only [← hji15]; first | rfl | (simp [errW_none, errW_some] <;> rfl)) | (simp [*, errW_none, errW_some] <;> rfl), by repeat (first | (with_reducible first | exact HB.out | apply below_alloc | apply pw_below_drewN | apply below_drew1 | refine below_set ?_ GE373.out | refine below_set ?_ GE381.out) | exact HB.out)⟩
         ·replace c38 := Bool.eq_false_iff.mpr c38
          subst c38
          have H1 : (some false) = some r := by rw [if_neg (show ¬ (false = true) by decide)] at H; exact H
          clear H
          have H := H1
          clear H1
          obtain rfl := Option.some.inj H
          have hnb85 := NB373_381.out
          have hnc85 := NB381_373.out
          have hcz86_0 : wr.cell? ⟨gb373, 0, none⟩ = some (.slice Ao22 t366.length co22) := (blk_cell BK373.out 0).trans rfl
          have hcz86_1 : wr.cell? ⟨gb373, 1, none⟩ = some (.slice Ao24 t369.length co24) := (blk_cell BK373.out 1).trans rfl
          have hfz86_0 := blk_frozen BK373.out 0
          have hfz86_1 := blk_frozen BK373.out 1
          have hcz87_0 : wr.cell? ⟨gb381, 0, none⟩ = some (.slice Ao28 t374.length co28) := (blk_cell BK381.out 0).trans rfl
          have hcz87_1 : wr.cell? ⟨gb381, 1, none⟩ = some (.slice Ao31 t377.length co31) := (blk_cell BK381.out 1).trans rfl
          have hfz87_0 := blk_frozen BK381.out 0
          have hfz87_1 := blk_frozen BK381.out 1
          go_wp2_with (first | (go_at_call 15; (with_reducible refine (fullerref03_Same.calls k2 _ _ t366 _ _ t369 _ _ t374 _ _ t377 false _ ?side1 ?side2 ?side3 ?side4 ?side5 ?side6 ?side7 ?side8 A37.out).mono ?_); (case side1 => repeat (first | exact (Kd.R_reads' HO_374000.out).2.2 | (with_reducible refine Kd.C_alloc ?_ _) | (with_reducible refine Kd.C_drewN ?_ _) | (with_reducible refine Kd.C_drew ?_))); (case side2 => exact (Kd.R_reads' HO_374000.out).2.1); (case side3 => repeat (first | exact (Kd.R_reads' HO_374001.out).2.2 | (with_reducible refine Kd.C_alloc ?_ _) | (with_reducible refine Kd.C_drewN ?_ _) | (with_reducible refine Kd.C_drew ?_))); (case side4 => exact (Kd.R_reads' HO_374001.out).2.1); (case side5 => repeat (first | exact (Kd.R_reads' HO_382000.out).2.2 | (with_reducible refine Kd.C_alloc ?_ _) | (with_reducible refine Kd.C_drewN ?_ _) | (with_reducible refine Kd.C_drew ?_))); (case side6 => exact (Kd.R_reads' HO_382000.out).2.1); (case side7 => repeat (first | exact (Kd.R_reads' HO_382001.out).2.2 | (with_reducible refine Kd.C_alloc ?_ _) | (with_reducible refine Kd.C_drewN ?_ _) | (with_reducible refine Kd.C_drew ?_))); (case side8 => exact (Kd.R_reads' HO_382001.out).2.1); rintro e w88 ⟨rfl, hb⟩; have n0_ := Aside0.mk (Kd.V_below (mvV_ HO_8.out) hb); have n1_ := Aside0.mk (Kd.R_below (mvR_ HO_374000.out) hb); have n2_ := Aside0.mk (Kd.R_below (mvR_ HO_374001.out) hb); have n3_ := Aside0.mk (Kd.R_below (mvR_ HO_382000.out) hb); have n4_ := Aside0.mk (Kd.R_below (mvR_ HO_382001.out) hb); have n5_ := Aside0.mk (blk_below (g := gb373) (o := .cells #[.slice Ao22 t366.length co22, .slice Ao24 t369.length co24] 25 (0, 0)) (mvK_ BK373.out) hb); have n6_ := Aside0.mk (blk_below (g := gb381) (o := .cells #[.slice Ao28 t374.length co28, .slice Ao31 t377.length co31] 25 (0, 0)) (mvK_ BK381.out) hb); have n7_ := Aside0.mk (below_step (bq2_ HB.out GE373.out GE381.out) hb); clear HO_8; clear HO_374000; clear HO_374001; clear HO_382000; clear HO_382001; clear BK373; clear BK381; clear HB; have HO_8 := n0_; have HO_374000 := n1_; have HO_374001 := n2_; have HO_382000 := n3_; have HO_382001 := n4_; have BK373 := n5_; have BK381 := n6_; have HB := n7_; clear n0_ n1_ n2_ n3_ n4_ n5_ n6_ n7_; (try clear hb); (try clear hb2); (try clear hk); (try clear hi)))
          go_ret
          exact ⟨by first | rfl | (simp [errW_none, errW_some] <;> rfl) | (simp only [← hji15]; first | rfl | (simp [errW_none, errW_some] <;> rfl)) | (simp [*, errW_none, errW_some] <;> rfl), by repeat (first | (with_reducible first | exact HB.out | apply below_alloc | apply pw_below_drewN | apply below_drew1 | refine below_set ?_ GE373.out | refine below_set ?_ GE381.out) | exact HB.out)⟩
        ·rw [if_neg c36] at H
         have c36b0 : (t372 == t380) = false := by simpa using c36
         (try (have c36b1 : decide (t372 = t380) = false := by simpa using c36))
         (try (have c36b2 : (t372 == t380) = false := by simpa using c36))
         (try (have c36b3 : ¬ (t372 = t380) := by simpa using c36))
         clear c36
         obtain rfl := Option.some.inj H
         go_wp2
         go_ret
         exact ⟨by first | rfl | (simp [errW_none, errW_some] <;> rfl) | (simp only [← hji15]; first | rfl | (simp [errW_none, errW_some] <;> rfl)) | (simp [*, errW_none, errW_some] <;> rfl), by repeat (first | (with_reducible first | exact HB.out | apply below_alloc | apply pw_below_drewN | apply below_drew1 | refine below_set ?_ GE373.out | refine below_set ?_ GE381.out) | exact HB.out)⟩
       ·replace c35 := Bool.eq_false_iff.mpr c35
        subst c35
        have H1 : (some false) = some r := by rw [if_neg (show ¬ (false = true) by decide)] at H; exact H
        clear H
        have H := H1
        clear H1
        obtain rfl := Option.some.inj H
        go_wp2
        go_ret
        exact ⟨by first | rfl | (simp [errW_none, errW_some] <;> rfl) | (simp only [← hji15]; first | rfl | (simp [errW_none, errW_some] <;> rfl)) | (simp [*, errW_none, errW_some] <;> rfl), by repeat (first | (with_reducible first | exact HB.out | apply below_alloc | apply pw_below_drewN | apply below_drew1 | refine below_set ?_ GE373.out | refine below_set ?_ GE381.out) | exact HB.out)⟩

/-- THE ONE PURE STATEMENT of fullerlaw17_ChainTrims: yours. -/
def fullerlaw17_ChainTrims.Pure : Prop := ∀ (l0 : List (S41)) (a1 : Int) (a2 : Int), (l0.length * 56 ≤ 140737488351232 ∧ ∀ x_ ∈ l0, OK41 x_) → ((Lit.int .i64 a1).wf = true) → ((Lit.int .i64 a2).wf = true) → ∃ k, fullerlaw17_ChainTrims.f k l0 a1 a2 = some true
theorem fullerlaw17_ChainTrims.walk (P : fullerlaw17_ChainTrims.Pure) (A0 : Option Addr) (c0 : Nat) (l0 : List (S41)) (a1 : Int) (a2 : Int) (w : World) (hr0 : Kd.C k41 w A0 l0.length l0) (hc0 : l0.length ≤ c0) (hg0 : l0.length * 56 ≤ 140737488351232 ∧ ∀ x_ ∈ l0, OK41 x_) (hg1 : (Lit.int .i64 a1).wf = true) (hg2 : (Lit.int .i64 a2).wf = true) :
  Calls Try.prog 5 #[.slice A0 l0.length c0, .int .i64 a1, .int .i64 a2] w fun e w' => e = .returned (.bool true) ∧ Below w.heap.size w w' := by
 obtain ⟨k, h⟩ := P l0 a1 a2 hg0 hg1 hg2
 refine (fullerlaw17_ChainTrims.calls k _ _ l0 a1 a2 true w hr0 hc0 h).mono ?_
 rintro e w' ⟨rfl, hd⟩
 exact ⟨rfl, hd⟩

end Go.Proofs.Ytdjlpbekoggmiaa.A
