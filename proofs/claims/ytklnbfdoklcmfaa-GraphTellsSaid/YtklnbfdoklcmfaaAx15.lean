/- Lean functions that answer as the Go functions do, and the proofs that they do; no conditions. Written by this session's own driver: a scratch copy of the kit's print with the session's additions (wip/xprint). -/
import Derived.Test.YtklnbfdoklcmfaaAx0
import Derived.Test.YtklnbfdoklcmfaaAx14
namespace Go.Proofs.Ytklnbfdoklcmfaa.A
open Go.RowKit Go.Proofs.YtklnbfdoklcmfaaW.PrintWords Go.Proofs.YtklnbfdoklcmfaaW.PrintLast Go.Proofs.YtklnbfdoklcmfaaW.PrintMore
attribute [local go_sem] max2_int min2_int max_two min_two max_three min_three max_four min_four   -- for this text's walks alone
set_option linter.unusedVariables false
set_option linter.unusedSimpArgs false

/-! ### fullerref10_Inputs: function 12 -/
mutual
def fullerref10_Inputs.l0 : Nat → List (S35) → Bool → Int → Option (List Int × Bool)
 | 0, _, _, _ => none
 | k + 1, x0, x4, x5 => if x5 < (x0.length : Int) then (fullerref10_Inputs.j1 k x0 x4 x5 x4) else (fullerref10_Inputs.j1 k x0 x4 x5 false)
def fullerref10_Inputs.j1 : Nat → List (S35) → Bool → Int → Bool → Option (List Int × Bool)
 | 0, _, _, _, _ => none
 | k + 1, x0, x4, x5, x14 => if x14 = true then (if 0 ≤ x5 then (if x5 < (x0.length : Int) then (if ((rd_T35 x0 x5).f0) = 1 then (some ((rd_T35 x0 x5).f2, true)) else (fullerref10_Inputs.l0 k x0 x4 (wrap64 (x5 + 1)))) else (none)) else (none)) else (some (([] : List Int), false))
end
def fullerref10_Inputs.f (k : Nat) (l0 : List (S35)) : Option (List Int × Bool) := (fullerref10_Check.f k l0).bind fun t338 => (fullerref10_Inputs.l0 k l0 t338 0)
theorem fullerref10_Inputs.mono_l : ∀ k, (∀ y0 y1 y2, LeO (fullerref10_Inputs.l0 k y0 y1 y2) (fullerref10_Inputs.l0 (k + 1) y0 y1 y2)) ∧ (∀ y0 y1 y2 y3, LeO (fullerref10_Inputs.j1 k y0 y1 y2 y3) (fullerref10_Inputs.j1 (k + 1) y0 y1 y2 y3))
 | 0 => ⟨fun _ _ _ r h => by simp [fullerref10_Inputs.l0] at h, fun _ _ _ _ r h => by simp [fullerref10_Inputs.j1] at h⟩
 | k + 1 => by
  obtain ⟨ih0, ih1⟩ := fullerref10_Inputs.mono_l k
  refine ⟨?_, ?_⟩
  ·intro y0 y1 y2
   unfold fullerref10_Inputs.l0
   repeat' first
   | (with_reducible exact ih0 _ _ _)
   | (with_reducible exact ih1 _ _ _ _)
   | (with_reducible exact fullerref10_Check.mono _ _)
   | (with_reducible exact LeO.refl _)
   | (with_reducible exact LeO.none _)
   | (with_reducible refine LeO.ite ?_ ?_)
   | (with_reducible refine LeO.bind ?_ (fun _ => ?_))
   | exact ih0 _ _ _
   | exact ih1 _ _ _ _
   | exact fullerref10_Check.mono _ _
   | exact LeO.none _
   | refine LeO.ite ?_ ?_
   | refine LeO.bind ?_ (fun _ => ?_)
  ·intro y0 y1 y2 y3
   unfold fullerref10_Inputs.j1
   repeat' first
   | (with_reducible exact ih0 _ _ _)
   | (with_reducible exact ih1 _ _ _ _)
   | (with_reducible exact fullerref10_Check.mono _ _)
   | (with_reducible exact LeO.refl _)
   | (with_reducible exact LeO.none _)
   | (with_reducible refine LeO.ite ?_ ?_)
   | (with_reducible refine LeO.bind ?_ (fun _ => ?_))
   | exact ih0 _ _ _
   | exact ih1 _ _ _ _
   | exact fullerref10_Check.mono _ _
   | exact LeO.none _
   | refine LeO.ite ?_ ?_
   | refine LeO.bind ?_ (fun _ => ?_)
theorem fullerref10_Inputs.mono : ∀ a0 k, LeO (fullerref10_Inputs.f k a0) (fullerref10_Inputs.f (k + 1) a0) := by
 intro a0 k
 obtain ⟨ih0, ih1⟩ := fullerref10_Inputs.mono_l k
 unfold fullerref10_Inputs.f
 repeat' first
   | (with_reducible exact ih0 _ _ _)
   | (with_reducible exact ih1 _ _ _ _)
   | (with_reducible exact fullerref10_Check.mono _ _)
   | (with_reducible exact LeO.refl _)
   | (with_reducible exact LeO.none _)
   | (with_reducible refine LeO.ite ?_ ?_)
   | (with_reducible refine LeO.bind ?_ (fun _ => ?_))
   | exact ih0 _ _ _
   | exact ih1 _ _ _ _
   | exact fullerref10_Check.mono _ _
   | exact LeO.none _
   | refine LeO.ite ?_ ?_
   | refine LeO.bind ?_ (fun _ => ?_)
set_option maxHeartbeats 8000000 in
set_option maxRecDepth 100000 in
theorem fullerref10_Inputs.calls (k : Nat) (P0_ : Nat → Prop) (A0 : Option Addr) (c0 : Nat) (l0 : List (S35)) (r1 : List Int) (r2 : Bool) (w : World) (hs0 : Kd.V k35 35 w w.heap.size (fun k_ => P0_ k_) (.slice A0 l0.length c0) l0) (h : fullerref10_Inputs.f k l0 = some (r1, r2)) :
  Calls Try.prog 12 #[.slice A0 l0.length c0] w fun e w' => ∃ v0_ : Value, e = .returned (.tuple #[v0_, .bool r2]) ∧ Kd.V (Kd.int .i64) 3 w' w.heap.size (fun k_ => (P0_ k_ ∨ w.heap.size ≤ k_)) v0_ r1 ∧ Below w.heap.size w w' := by
 have HO0 := Aside0.mk (show Kd.V k35 35 w w.heap.size (fun k_ => (P0_ k_ ∨ w.heap.size ≤ k_)) (.slice A0 l0.length c0) l0 from Kd.V_mono hs0 (fun k_ hk => .inl hk))
 have HB := Aside0.mk (Below.refl w.heap.size w)
 have H : ((fullerref10_Check.f k l0).bind fun t338 => (fullerref10_Inputs.l0 k l0 t338 0)) = some (r1, r2) := h
 clear h
 replace H := Option.bind_eq_some_iff.mp H
 obtain ⟨t338, A20, H⟩ := H
 replace H : (fullerref10_Inputs.l0 k l0 t338 0) = some (r1, r2) := H
 have A2 := Aside0.mk A20
 clear A20
 have H' := Aside0.mk H
 clear H
 go_enter Try.func12, Try.ntmps12
 go_wp2_with (first | ((with_reducible refine gate_callee (f := 14) rfl ?_); refine gL_ (some 7) Try.func14 #[.slice A0 l0.length c0] ?_; (with_reducible refine (fullerref10_Check.calls k _ _ l0 t338 _ ?side1 ?side2 A2.out).mono ?_); (case side1 => repeat (first | exact (Kd.V_reads' HO0.out).2.2 | (with_reducible refine Kd.C_alloc ?_ _) | (with_reducible refine Kd.C_drewN ?_ _) | (with_reducible refine Kd.C_drew ?_))); (case side2 => exact (Kd.V_reads' HO0.out).2.1); rintro e w3 ⟨rfl, hb⟩; refine ⟨_, rfl, ?_⟩; replace HO0 := Aside0.mk (Kd.V_below (mvV_ HO0.out) hb); replace HB := Aside0.mk (below_step (bq0_ HB.out) hb); (try clear hb); (try clear hb2); (try clear hk); (try clear hi)))
 go_loopg [5] k (fun kq v5 w' => ∃ (x5_1 : Int), v5 = .int .i64 x5_1 ∧ Aside0 (fullerref10_Inputs.l0 kq l0 t338 x5_1 = some (r1, r2)) ∧ Aside0 (kq ≤ k) ∧ Aside0 (Kd.V k35 35 w' w.heap.size (fun k_ => (P0_ k_ ∨ w.heap.size ≤ k_)) (.slice A0 l0.length c0) l0) ∧ Aside0 (Below w.heap.size w w'))
 case atStart => exact ⟨(0), (by first | rfl | (simp; done) | (simp [*]; done)), H', ⟨Nat.le_refl _⟩, ⟨mvV_ HO0.out⟩, ⟨bq0_ HB.out⟩⟩
 case round =>
  clear H'
  try clear c1
  try clear p2
  obtain ⟨x5_1, rfl, HA, HK1, HO_0, HB⟩ := hrel
  cases gk with
  | zero => exact absurd HA.out (by simp [fullerref10_Inputs.l0])
  | succ k1 =>
   have H := HA.out
   clear HA
   simp only [fullerref10_Inputs.l0] at H
   have HC4 := Aside0.mk H
   clear H
   go_upto_region 3 with (fail)
   go_cut [14] (fun v14 wc => ∃ (kq : Nat) (x14_3 : Bool), v14 = .bool x14_3 ∧ Aside0 (fullerref10_Inputs.j1 kq l0 t338 x5_1 x14_3 = some (r1, r2)) ∧ Aside0 (kq ≤ k1) ∧ Aside0 (Kd.V k35 35 wc w.heap.size (fun k_ => (P0_ k_ ∨ w.heap.size ≤ k_)) (.slice A0 l0.length c0) l0) ∧ Aside0 (Below w.heap.size w wc))
   case first =>
    have H := HC4.out
    clear HC4
    by_cases c5 : x5_1 < (l0.length : Int)
    ·rw [if_pos c5] at H
     have c5b0 : decide (x5_1 < (l0.length : Int)) = true := decide_eq_true c5
     clear c5
     (first | rw [c5b0] | (simp only [i64_w, i32_w]; rw [c5b0]) | skip)
     have H' := Aside0.mk H
     clear H
     go_wp2
     go_meet
     case rel => exact ⟨_, (t338), (by first | rfl | (simp; done) | (simp [*]; done)), H', ⟨by have := HK1.out; first | omega | exact Nat.le_refl _⟩, ⟨mvV_ HO_0.out⟩, ⟨bq0_ HB.out⟩⟩
    ·rw [if_neg c5] at H
     have c5b0 : decide (x5_1 < (l0.length : Int)) = false := decide_eq_false c5
     clear c5
     (first | rw [c5b0] | (simp only [i64_w, i32_w]; rw [c5b0]) | skip)
     have H' := Aside0.mk H
     clear H
     go_wp2
     go_meet
     case rel => exact ⟨_, (false), (by first | rfl | (simp; done) | (simp [*]; done)), H', ⟨by have := HK1.out; first | omega | exact Nat.le_refl _⟩, ⟨mvV_ HO_0.out⟩, ⟨bq0_ HB.out⟩⟩
   case rest =>
    clear HC4
    try clear c1
    try clear p2
    try clear c5
    try clear c5b0
    try clear p2
    obtain ⟨kq, x14_3, rfl, HA, HJ3, HO_0, HB⟩ := hcut
    cases kq with
    | zero => exact absurd HA.out (by simp [fullerref10_Inputs.j1])
    | succ kj3 =>
     have H := HA.out
     clear HA
     simp only [fullerref10_Inputs.j1] at H
     by_cases c6 : x14_3 = true
     ·subst c6
      have H1 : (if 0 ≤ x5_1 then (if x5_1 < (l0.length : Int) then (if ((rd_T35 l0 x5_1).f0) = 1 then (some ((rd_T35 l0 x5_1).f2, true)) else (fullerref10_Inputs.l0 kj3 l0 t338 (wrap64 (x5_1 + 1)))) else (none)) else (none)) = some (r1, r2) := by rw [if_pos rfl] at H; exact H
      clear H
      have H := H1
      clear H1
      by_cases c7 : 0 ≤ x5_1
      ·rw [if_pos c7] at H
       have c7b0 : decide (0 ≤ x5_1) = true := decide_eq_true c7
       clear c7
       by_cases c8 : x5_1 < (l0.length : Int)
       ·rw [if_pos c8] at H
        have c8b0 : decide (x5_1 < (l0.length : Int)) = true := decide_eq_true c8
        clear c8
        by_cases c9 : ((rd_T35 l0 x5_1).f0) = 1
        ·rw [if_pos c9] at H
         obtain ⟨c9b0, c9b1⟩ := eqT_ c9
         clear c9
         simp only [Option.some.injEq, Prod.mk.injEq] at H
         obtain ⟨rfl, rfl⟩ := H
         have p339 : 0 ≤ (x5_1 : Int) := of_decide_eq_true (by first | (with_reducible assumption) | assumption)
         have q339 : x5_1 < (l0.length : Int) := of_decide_eq_true (by first | (with_reducible assumption) | assumption)
         obtain ⟨ad339, A339_1, c339_1, A339_2, c339_2, e339, hx339_0, hx339_1, hx339_2, hl339_1, hi339_1, hl339_2, hi339_2⟩ := at_T35 (Kd.V_reads' HO_0.out).2.2 x5_1 p339 q339
         cases e339
         obtain ⟨ce339, hce339, hMe339, hcc339⟩ := Kd.V_get HO_0.out z35 x5_1 p339 (by first | exact q339 | exact of_decide_eq_true (by first | (with_reducible assumption) | assumption) | (have e_ := (Kd.V_reads' HO_0.out).1; omega))
         obtain ⟨ua339_1, uc339_1, ua339_2, uc339_2, rfl, ul339_1, ge339_1, ul339_2, ge339_2⟩ := k35_openF hMe339
         have hv339_1 := hcc339 1 _ rfl
         rw [add_field _ _ 1 (by omega)] at hv339_1
         replace hv339_1 := Option.some.inj (hv339_1.symm.trans hx339_1)
         injection hv339_1 with hva_ hvn_ hvc_
         rw [hva_] at ge339_1
         rw [hvc_] at ul339_1
         have HL339_1 := Aside0.mk (show Kd.V (Kd.int .i64) 3 _ w.heap.size _ _ ((rd_T35 l0 x5_1).f1) from Kd.V_mk ul339_1 ge339_1)
         clear hva_ hvn_ hvc_ ge339_1 ul339_1
         have hv339_2 := hcc339 2 _ rfl
         rw [add_field _ _ 2 (by omega)] at hv339_2
         replace hv339_2 := Option.some.inj (hv339_2.symm.trans hx339_2)
         injection hv339_2 with hva_ hvn_ hvc_
         rw [hva_] at ge339_2
         rw [hvc_] at ul339_2
         have HL339_2 := Aside0.mk (show Kd.V (Kd.int .i64) 3 _ w.heap.size _ _ ((rd_T35 l0 x5_1).f2) from Kd.V_mk ul339_2 ge339_2)
         clear hva_ hvn_ hvc_ ge339_2 ul339_2 hcc339 hce339
         have HR339_1 := Aside0.mk hi339_1
         have HC339_1 := Aside0.mk hl339_1
         clear hi339_1 hl339_1
         have HR339_2 := Aside0.mk hi339_2
         have HC339_2 := Aside0.mk hl339_2
         clear hi339_2 hl339_2
         replace p339 := eq_true p339
         replace q339 := eq_true q339
         have p340 : 0 ≤ (x5_1 : Int) := of_decide_eq_true (by first | (with_reducible assumption) | assumption)
         have q340 : x5_1 < (l0.length : Int) := of_decide_eq_true (by first | (with_reducible assumption) | assumption)
         obtain ⟨ad340, A340_1, c340_1, A340_2, c340_2, e340, hx340_0, hx340_1, hx340_2, hl340_1, hi340_1, hl340_2, hi340_2⟩ := at_T35 (Kd.V_reads' HO_0.out).2.2 x5_1 p340 q340
         obtain rfl : ad339 = ad340 := (by injection e340)
         obtain ⟨ce340, hce340, hMe340, hcc340⟩ := Kd.V_get HO_0.out z35 x5_1 p340 (by first | exact q340 | exact of_decide_eq_true (by first | (with_reducible assumption) | assumption) | (have e_ := (Kd.V_reads' HO_0.out).1; omega))
         obtain ⟨ua340_1, uc340_1, ua340_2, uc340_2, rfl, ul340_1, ge340_1, ul340_2, ge340_2⟩ := k35_openF hMe340
         have hv340_1 := hcc340 1 _ rfl
         rw [add_field _ _ 1 (by omega)] at hv340_1
         replace hv340_1 := Option.some.inj (hv340_1.symm.trans hx340_1)
         injection hv340_1 with hva_ hvn_ hvc_
         rw [hva_] at ge340_1
         rw [hvc_] at ul340_1
         have HL340_1 := Aside0.mk (show Kd.V (Kd.int .i64) 3 _ w.heap.size _ _ ((rd_T35 l0 x5_1).f1) from Kd.V_mk ul340_1 ge340_1)
         clear hva_ hvn_ hvc_ ge340_1 ul340_1
         have hv340_2 := hcc340 2 _ rfl
         rw [add_field _ _ 2 (by omega)] at hv340_2
         replace hv340_2 := Option.some.inj (hv340_2.symm.trans hx340_2)
         injection hv340_2 with hva_ hvn_ hvc_
         rw [hva_] at ge340_2
         rw [hvc_] at ul340_2
         have HL340_2 := Aside0.mk (show Kd.V (Kd.int .i64) 3 _ w.heap.size _ _ ((rd_T35 l0 x5_1).f2) from Kd.V_mk ul340_2 ge340_2)
         clear hva_ hvn_ hvc_ ge340_2 ul340_2 hcc340 hce340
         have HR340_1 := Aside0.mk hi340_1
         have HC340_1 := Aside0.mk hl340_1
         clear hi340_1 hl340_1
         have HR340_2 := Aside0.mk hi340_2
         have HC340_2 := Aside0.mk hl340_2
         clear hi340_2 hl340_2
         replace p340 := eq_true p340
         replace q340 := eq_true q340
         have ea_ := Option.some.inj (hx339_1.symm.trans hx340_1)
         injection ea_ with ea_ en_ ec_
         subst ea_
         subst ec_
         clear en_
         have ea_ := Option.some.inj (hx339_2.symm.trans hx340_2)
         injection ea_ with ea_ en_ ec_
         subst ea_
         subst ec_
         clear en_
         go_wp2
         go_ret2
         exact ⟨_, by first | rfl | (simp <;> rfl) | (simp [*] <;> rfl), mvV_ HL340_2.out, bq0_ HB.out⟩
        ·rw [if_neg c9] at H
         have c9b0 : (((rd_T35 l0 x5_1).f0) == 1) = false := beq_eq_false_iff_ne.mpr c9
         have c9b1 : (((rd_T35 l0 x5_1).f0) != 1) = true := bne_iff_ne.mpr c9
         have H' := Aside0.mk H
         clear H
         have p339 : 0 ≤ (x5_1 : Int) := of_decide_eq_true (by first | (with_reducible assumption) | assumption)
         have q339 : x5_1 < (l0.length : Int) := of_decide_eq_true (by first | (with_reducible assumption) | assumption)
         obtain ⟨ad339, A339_1, c339_1, A339_2, c339_2, e339, hx339_0, hx339_1, hx339_2, hl339_1, hi339_1, hl339_2, hi339_2⟩ := at_T35 (Kd.V_reads' HO_0.out).2.2 x5_1 p339 q339
         cases e339
         obtain ⟨ce339, hce339, hMe339, hcc339⟩ := Kd.V_get HO_0.out z35 x5_1 p339 (by first | exact q339 | exact of_decide_eq_true (by first | (with_reducible assumption) | assumption) | (have e_ := (Kd.V_reads' HO_0.out).1; omega))
         obtain ⟨ua339_1, uc339_1, ua339_2, uc339_2, rfl, ul339_1, ge339_1, ul339_2, ge339_2⟩ := k35_openF hMe339
         have hv339_1 := hcc339 1 _ rfl
         rw [add_field _ _ 1 (by omega)] at hv339_1
         replace hv339_1 := Option.some.inj (hv339_1.symm.trans hx339_1)
         injection hv339_1 with hva_ hvn_ hvc_
         rw [hva_] at ge339_1
         rw [hvc_] at ul339_1
         have HL339_1 := Aside0.mk (show Kd.V (Kd.int .i64) 3 _ w.heap.size _ _ ((rd_T35 l0 x5_1).f1) from Kd.V_mk ul339_1 ge339_1)
         clear hva_ hvn_ hvc_ ge339_1 ul339_1
         have hv339_2 := hcc339 2 _ rfl
         rw [add_field _ _ 2 (by omega)] at hv339_2
         replace hv339_2 := Option.some.inj (hv339_2.symm.trans hx339_2)
         injection hv339_2 with hva_ hvn_ hvc_
         rw [hva_] at ge339_2
         rw [hvc_] at ul339_2
         have HL339_2 := Aside0.mk (show Kd.V (Kd.int .i64) 3 _ w.heap.size _ _ ((rd_T35 l0 x5_1).f2) from Kd.V_mk ul339_2 ge339_2)
         clear hva_ hvn_ hvc_ ge339_2 ul339_2 hcc339 hce339
         have HR339_1 := Aside0.mk hi339_1
         have HC339_1 := Aside0.mk hl339_1
         clear hi339_1 hl339_1
         have HR339_2 := Aside0.mk hi339_2
         have HC339_2 := Aside0.mk hl339_2
         clear hi339_2 hl339_2
         replace p339 := eq_true p339
         replace q339 := eq_true q339
         go_wp2
         go_roundg kj3
         case measure => have := HK1.out; have := HJ3.out; omega
         case rel => exact ⟨(wrap64 (x5_1 + 1)), (by first | rfl | (simp; done) | (simp [*]; done)), H', ⟨by have := HK1.out; have := HJ3.out; omega⟩, ⟨mvV_ HO_0.out⟩, ⟨bq0_ HB.out⟩⟩
       ·rw [if_neg c8] at H
        exact absurd H (by simp)
      ·rw [if_neg c7] at H
       exact absurd H (by simp)
     ·replace c6 := Bool.eq_false_iff.mpr c6
      subst c6
      have H1 : (some (([] : List Int), false)) = some (r1, r2) := by rw [if_neg (show ¬ (false = true) by decide)] at H; exact H
      clear H
      have H := H1
      clear H1
      simp only [Option.some.injEq, Prod.mk.injEq] at H
      obtain ⟨rfl, rfl⟩ := H
      go_wp2
      go_ret2
      exact ⟨_, by first | rfl | (simp <;> rfl) | (simp [*] <;> rfl), (Kd.V_nil _ _ _ _ _), bq0_ HB.out⟩

/-! ### fullerref10_Params: function 19 -/
mutual
def fullerref10_Params.l0 : Nat → List (S35) → Bool → List Int → Int → Option (List Int)
 | 0, _, _, _, _ => none
 | k + 1, x0, x3, x4, x5 => if x5 < 8 then (fullerref10_Params.j1 k x0 x3 x4 x5 x3) else (fullerref10_Params.j1 k x0 x3 x4 x5 false)
def fullerref10_Params.j1 : Nat → List (S35) → Bool → List Int → Int → Bool → Option (List Int)
 | 0, _, _, _, _, _ => none
 | k + 1, x0, x3, x4, x5, x14 => if x14 = true then (fullerref10_Params.l1 k x0 x3 x4 x5 false 0) else (some x4)
def fullerref10_Params.l1 : Nat → List (S35) → Bool → List Int → Int → Bool → Int → Option (List Int)
 | 0, _, _, _, _, _, _ => none
 | k + 1, x0, x3, x4, x5, x6, x7 => if x7 < (x0.length : Int) then (if x6 = true then (fullerref10_Params.l1 k x0 x3 x4 x5 true (wrap64 (x7 + 1))) else (if 0 ≤ x7 then (if ((rd_T35 x0 x7).f0) = 2 then (if 0 < (((rd_T35 x0 x7).f2).length : Int) then (fullerref10_Params.l1 k x0 x3 x4 x5 ((rd ((rd_T35 x0 x7).f2) 0) == x5) (wrap64 (x7 + 1))) else (none)) else (fullerref10_Params.l1 k x0 x3 x4 x5 false (wrap64 (x7 + 1)))) else (none))) else (if x6 = true then (if x4.length < 17592186044416 then (fullerref10_Params.l0 k x0 x3 (x4 ++ [x5]) (wrap64 (x5 + 1))) else (none)) else (fullerref10_Params.l0 k x0 x3 x4 (wrap64 (x5 + 1))))
end
def fullerref10_Params.f (k : Nat) (l0 : List (S35)) : Option (List Int) := (fullerref10_Check.f k l0).bind fun t341 => (fullerref10_Params.l0 k l0 t341 ([] : List Int) 0)
theorem fullerref10_Params.mono_l : ∀ k, (∀ y0 y1 y2 y3, LeO (fullerref10_Params.l0 k y0 y1 y2 y3) (fullerref10_Params.l0 (k + 1) y0 y1 y2 y3)) ∧ (∀ y0 y1 y2 y3 y4, LeO (fullerref10_Params.j1 k y0 y1 y2 y3 y4) (fullerref10_Params.j1 (k + 1) y0 y1 y2 y3 y4)) ∧ (∀ y0 y1 y2 y3 y4 y5, LeO (fullerref10_Params.l1 k y0 y1 y2 y3 y4 y5) (fullerref10_Params.l1 (k + 1) y0 y1 y2 y3 y4 y5))
 | 0 => ⟨fun _ _ _ _ r h => by simp [fullerref10_Params.l0] at h, fun _ _ _ _ _ r h => by simp [fullerref10_Params.j1] at h, fun _ _ _ _ _ _ r h => by simp [fullerref10_Params.l1] at h⟩
 | k + 1 => by
  obtain ⟨ih0, ih1, ih2⟩ := fullerref10_Params.mono_l k
  refine ⟨?_, ?_, ?_⟩
  ·intro y0 y1 y2 y3
   unfold fullerref10_Params.l0
   repeat' first
   | (with_reducible exact ih0 _ _ _ _)
   | (with_reducible exact ih1 _ _ _ _ _)
   | (with_reducible exact ih2 _ _ _ _ _ _)
   | (with_reducible exact fullerref10_Check.mono _ _)
   | (with_reducible exact LeO.refl _)
   | (with_reducible exact LeO.none _)
   | (with_reducible refine LeO.ite ?_ ?_)
   | (with_reducible refine LeO.bind ?_ (fun _ => ?_))
   | exact ih0 _ _ _ _
   | exact ih1 _ _ _ _ _
   | exact ih2 _ _ _ _ _ _
   | exact fullerref10_Check.mono _ _
   | exact LeO.none _
   | refine LeO.ite ?_ ?_
   | refine LeO.bind ?_ (fun _ => ?_)
  ·intro y0 y1 y2 y3 y4
   unfold fullerref10_Params.j1
   repeat' first
   | (with_reducible exact ih0 _ _ _ _)
   | (with_reducible exact ih1 _ _ _ _ _)
   | (with_reducible exact ih2 _ _ _ _ _ _)
   | (with_reducible exact fullerref10_Check.mono _ _)
   | (with_reducible exact LeO.refl _)
   | (with_reducible exact LeO.none _)
   | (with_reducible refine LeO.ite ?_ ?_)
   | (with_reducible refine LeO.bind ?_ (fun _ => ?_))
   | exact ih0 _ _ _ _
   | exact ih1 _ _ _ _ _
   | exact ih2 _ _ _ _ _ _
   | exact fullerref10_Check.mono _ _
   | exact LeO.none _
   | refine LeO.ite ?_ ?_
   | refine LeO.bind ?_ (fun _ => ?_)
  ·intro y0 y1 y2 y3 y4 y5
   unfold fullerref10_Params.l1
   repeat' first
   | (with_reducible exact ih0 _ _ _ _)
   | (with_reducible exact ih1 _ _ _ _ _)
   | (with_reducible exact ih2 _ _ _ _ _ _)
   | (with_reducible exact fullerref10_Check.mono _ _)
   | (with_reducible exact LeO.refl _)
   | (with_reducible exact LeO.none _)
   | (with_reducible refine LeO.ite ?_ ?_)
   | (with_reducible refine LeO.bind ?_ (fun _ => ?_))
   | exact ih0 _ _ _ _
   | exact ih1 _ _ _ _ _
   | exact ih2 _ _ _ _ _ _
   | exact fullerref10_Check.mono _ _
   | exact LeO.none _
   | refine LeO.ite ?_ ?_
   | refine LeO.bind ?_ (fun _ => ?_)
theorem fullerref10_Params.mono : ∀ a0 k, LeO (fullerref10_Params.f k a0) (fullerref10_Params.f (k + 1) a0) := by
 intro a0 k
 obtain ⟨ih0, ih1, ih2⟩ := fullerref10_Params.mono_l k
 unfold fullerref10_Params.f
 repeat' first
   | (with_reducible exact ih0 _ _ _ _)
   | (with_reducible exact ih1 _ _ _ _ _)
   | (with_reducible exact ih2 _ _ _ _ _ _)
   | (with_reducible exact fullerref10_Check.mono _ _)
   | (with_reducible exact LeO.refl _)
   | (with_reducible exact LeO.none _)
   | (with_reducible refine LeO.ite ?_ ?_)
   | (with_reducible refine LeO.bind ?_ (fun _ => ?_))
   | exact ih0 _ _ _ _
   | exact ih1 _ _ _ _ _
   | exact ih2 _ _ _ _ _ _
   | exact fullerref10_Check.mono _ _
   | exact LeO.none _
   | refine LeO.ite ?_ ?_
   | refine LeO.bind ?_ (fun _ => ?_)
set_option maxHeartbeats 8000000 in
set_option maxRecDepth 100000 in
theorem fullerref10_Params.calls (k : Nat) (A0 : Option Addr) (c0 : Nat) (l0 : List (S35)) (r : List Int) (w : World) (hr0 : Kd.C k35 w A0 l0.length l0) (hc0 : l0.length ≤ c0) (h : fullerref10_Params.f k l0 = some r) :
  Calls Try.prog 19 #[.slice A0 l0.length c0] w fun e w' => ∃ v0_ : Value, e = .returned (v0_) ∧ Kd.R (Kd.int .i64) 3 w' w.heap.size (fun _ => True) v0_ r ∧ Below w.heap.size w w' := by
 have HR0 := Aside0.mk hr0
 have HC0 := Aside0.mk hc0
 clear hr0 hc0
 have HB := Aside0.mk (Below.refl w.heap.size w)
 have H : ((fullerref10_Check.f k l0).bind fun t341 => (fullerref10_Params.l0 k l0 t341 ([] : List Int) 0)) = some r := h
 clear h
 replace H := Option.bind_eq_some_iff.mp H
 obtain ⟨t341, A20, H⟩ := H
 replace H : (fullerref10_Params.l0 k l0 t341 ([] : List Int) 0) = some r := H
 have A2 := Aside0.mk A20
 clear A20
 have H' := Aside0.mk H
 clear H
 go_enter Try.func19, Try.ntmps19
 go_wp2_with (first | ((with_reducible refine gate_callee (f := 14) rfl ?_); refine gL_ (some 9) Try.func14 #[.slice A0 l0.length c0] ?_; (with_reducible refine (fullerref10_Check.calls k _ _ l0 t341 _ ?side1 ?side2 A2.out).mono ?_); (case side1 => exact mvC_ (HR0.out)); (case side2 => exact HC0.out); rintro e w3 ⟨rfl, hb⟩; refine ⟨_, rfl, ?_⟩; replace HB := Aside0.mk (below_step (bq0_ HB.out) hb); (try clear hb)))
 go_loopg [4, 5] k (fun kq v4 v5 w' => ∃ (x4_1 : List Int) (x5_1 : Int), v5 = .int .i64 x5_1 ∧ Aside0 (fullerref10_Params.l0 kq l0 t341 x4_1 x5_1 = some r) ∧ Aside0 (kq ≤ k) ∧ Aside0 (Kd.R (Kd.int .i64) 3 w' w.heap.size (fun _ => True) v4 x4_1) ∧ Aside0 (Below w.heap.size w w'))
 case atStart => exact ⟨(([] : List Int)), (0), (by first | rfl | (simp; done) | (simp [*]; done)), H', ⟨Nat.le_refl _⟩, ⟨by first | exact Kd.R_nil _ _ _ _ _ | exact Kd.N_nil _ _ _ _ _ | exact Kd.V_nil _ _ _ _ _ | exact Kd.Q_nil _ _ _ _ _ | exact Kd.S_nil _ _ _ _ _⟩, ⟨bq0_ HB.out⟩⟩
 case round =>
  clear H'
  try clear c1
  try clear p2
  obtain ⟨x4_1, x5_1, rfl, HA, HK1, HO_4, HB⟩ := hrel
  cases gk with
  | zero => exact absurd HA.out (by simp [fullerref10_Params.l0])
  | succ k1 =>
   have H := HA.out
   clear HA
   simp only [fullerref10_Params.l0] at H
   have HC4 := Aside0.mk H
   clear H
   go_upto_region 4 with (fail)
   go_cut [14] (fun v14 wc => ∃ (kq : Nat) (x14_3 : Bool), v14 = .bool x14_3 ∧ Aside0 (fullerref10_Params.j1 kq l0 t341 x4_1 x5_1 x14_3 = some r) ∧ Aside0 (kq ≤ k1) ∧ Aside0 (Kd.R (Kd.int .i64) 3 wc w.heap.size (fun _ => True) u4 x4_1) ∧ Aside0 (Below w.heap.size w wc))
   case first =>
    have H := HC4.out
    clear HC4
    by_cases c5 : x5_1 < 8
    ·rw [if_pos c5] at H
     have c5b0 : decide (x5_1 < 8) = true := decide_eq_true c5
     clear c5
     (first | rw [c5b0] | (simp only [i64_w, i32_w]; rw [c5b0]) | skip)
     have H' := Aside0.mk H
     clear H
     go_wp2
     go_meet
     case rel => exact ⟨_, (t341), (by first | rfl | (simp; done) | (simp [*]; done)), H', ⟨by have := HK1.out; first | omega | exact Nat.le_refl _⟩, ⟨mvR_ HO_4.out⟩, ⟨bq0_ HB.out⟩⟩
    ·rw [if_neg c5] at H
     have c5b0 : decide (x5_1 < 8) = false := decide_eq_false c5
     clear c5
     (first | rw [c5b0] | (simp only [i64_w, i32_w]; rw [c5b0]) | skip)
     have H' := Aside0.mk H
     clear H
     go_wp2
     go_meet
     case rel => exact ⟨_, (false), (by first | rfl | (simp; done) | (simp [*]; done)), H', ⟨by have := HK1.out; first | omega | exact Nat.le_refl _⟩, ⟨mvR_ HO_4.out⟩, ⟨bq0_ HB.out⟩⟩
   case rest =>
    clear HC4
    try clear c1
    try clear p2
    try clear c5
    try clear c5b0
    try clear p2
    obtain ⟨kq, x14_3, rfl, HA, HJ3, HO_4, HB⟩ := hcut
    cases kq with
    | zero => exact absurd HA.out (by simp [fullerref10_Params.j1])
    | succ kj3 =>
     have H := HA.out
     clear HA
     simp only [fullerref10_Params.j1] at H
     by_cases c6 : x14_3 = true
     ·subst c6
      have H1 : (fullerref10_Params.l1 kj3 l0 t341 x4_1 x5_1 false 0) = some r := by rw [if_pos rfl] at H; exact H
      clear H
      have H := H1
      clear H1
      have H' := Aside0.mk H
      clear H
      go_wp2
      go_loopg [6, 7] kj3 (fun kq v6 v7 w' => ∃ (x6_3 : Bool) (x7_3 : Int), v6 = .bool x6_3 ∧ v7 = .int .i64 x7_3 ∧ Aside0 (fullerref10_Params.l1 kq l0 t341 x4_1 x5_1 x6_3 x7_3 = some r) ∧ Aside0 (kq ≤ kj3) ∧ Aside0 (Kd.R (Kd.int .i64) 3 w' w.heap.size (fun _ => True) u4 x4_1) ∧ Aside0 (Below w.heap.size w w'))
      case atStart => exact ⟨(false), (0), (by first | rfl | (simp; done) | (simp [*]; done)), (by first | rfl | (simp; done) | (simp [*]; done)), H', ⟨Nat.le_refl _⟩, ⟨mvR_ HO_4.out⟩, ⟨bq0_ HB.out⟩⟩
      case round =>
       clear H'
       try clear c1
       try clear p2
       try clear c5
       try clear c5b0
       try clear c6
       try clear p2
       obtain ⟨x6_3, x7_3, rfl, rfl, HA, HK3, HO_4, HB⟩ := hrel
       cases gk with
       | zero => exact absurd HA.out (by simp [fullerref10_Params.l1])
       | succ k3 =>
        have H := HA.out
        clear HA
        simp only [fullerref10_Params.l1] at H
        by_cases c7 : x7_3 < (l0.length : Int)
        ·rw [if_pos c7] at H
         have c7b0 : decide (x7_3 < (l0.length : Int)) = true := decide_eq_true c7
         clear c7
         by_cases c8 : x6_3 = true
         ·subst c8
          have H1 : (fullerref10_Params.l1 k3 l0 t341 x4_1 x5_1 true (wrap64 (x7_3 + 1))) = some r := by rw [if_pos rfl] at H; exact H
          clear H
          have H := H1
          clear H1
          have H' := Aside0.mk H
          clear H
          go_wp2
          go_roundg k3
          case measure => have := HK1.out; have := HJ3.out; have := HK3.out; omega
          case rel => exact ⟨(true), (wrap64 (x7_3 + 1)), (by first | rfl | (simp; done) | (simp [*]; done)), (by first | rfl | (simp; done) | (simp [*]; done)), H', ⟨by have := HK1.out; have := HJ3.out; have := HK3.out; omega⟩, ⟨mvR_ HO_4.out⟩, ⟨bq0_ HB.out⟩⟩
         ·replace c8 := Bool.eq_false_iff.mpr c8
          subst c8
          have H1 : (if 0 ≤ x7_3 then (if ((rd_T35 l0 x7_3).f0) = 2 then (if 0 < (((rd_T35 l0 x7_3).f2).length : Int) then (fullerref10_Params.l1 k3 l0 t341 x4_1 x5_1 ((rd ((rd_T35 l0 x7_3).f2) 0) == x5_1) (wrap64 (x7_3 + 1))) else (none)) else (fullerref10_Params.l1 k3 l0 t341 x4_1 x5_1 false (wrap64 (x7_3 + 1)))) else (none)) = some r := by rw [if_neg (show ¬ (false = true) by decide)] at H; exact H
          clear H
          have H := H1
          clear H1
          by_cases c9 : 0 ≤ x7_3
          ·rw [if_pos c9] at H
           have c9b0 : decide (0 ≤ x7_3) = true := decide_eq_true c9
           clear c9
           by_cases c10 : ((rd_T35 l0 x7_3).f0) = 2
           ·rw [if_pos c10] at H
            obtain ⟨c10b0, c10b1⟩ := eqT_ c10
            clear c10
            by_cases c11 : 0 < (((rd_T35 l0 x7_3).f2).length : Int)
            ·rw [if_pos c11] at H
             have c11b0 : decide (0 < (((rd_T35 l0 x7_3).f2).length : Int)) = true := decide_eq_true c11
             have c11b1 : decide (0 < ((rd_T35 l0 x7_3).f2).length) = true := decide_eq_true (by omega)
             clear c11
             have H' := Aside0.mk H
             clear H
             have p342 : 0 ≤ (x7_3 : Int) := od_
             have q342 : x7_3 < (l0.length : Int) := od_
             obtain ⟨ad342, A342_1, c342_1, A342_2, c342_2, e342, hx342_0, hx342_1, hx342_2, hl342_1, hi342_1, hl342_2, hi342_2⟩ := at_T35 HR0.out x7_3 p342 q342
             cases e342
             replace hx342_0 := (HB.out.cell (World.block_lt_of_cell? w _ hx342_0)).trans hx342_0
             replace hx342_1 := (HB.out.cell (World.block_lt_of_cell? w _ hx342_1)).trans hx342_1
             replace hx342_2 := (HB.out.cell (World.block_lt_of_cell? w _ hx342_2)).trans hx342_2
             have HR342_1 := Aside0.mk hi342_1
             have HC342_1 := Aside0.mk hl342_1
             clear hi342_1 hl342_1
             have HR342_2 := Aside0.mk hi342_2
             have HC342_2 := Aside0.mk hl342_2
             clear hi342_2 hl342_2
             replace p342 := eq_true p342
             replace q342 := eq_true q342
             have p343 : 0 ≤ (x7_3 : Int) := od_
             have q343 : x7_3 < (l0.length : Int) := od_
             obtain ⟨ad343, A343_1, c343_1, A343_2, c343_2, e343, hx343_0, hx343_1, hx343_2, hl343_1, hi343_1, hl343_2, hi343_2⟩ := at_T35 HR0.out x7_3 p343 q343
             obtain rfl : ad342 = ad343 := (by injection e343)
             replace hx343_0 := (HB.out.cell (World.block_lt_of_cell? w _ hx343_0)).trans hx343_0
             replace hx343_1 := (HB.out.cell (World.block_lt_of_cell? w _ hx343_1)).trans hx343_1
             replace hx343_2 := (HB.out.cell (World.block_lt_of_cell? w _ hx343_2)).trans hx343_2
             have HR343_1 := Aside0.mk hi343_1
             have HC343_1 := Aside0.mk hl343_1
             clear hi343_1 hl343_1
             have HR343_2 := Aside0.mk hi343_2
             have HC343_2 := Aside0.mk hl343_2
             clear hi343_2 hl343_2
             replace p343 := eq_true p343
             replace q343 := eq_true q343
             have ea_ := Option.some.inj (hx342_1.symm.trans hx343_1)
             injection ea_ with ea_ en_ ec_
             subst ea_
             subst ec_
             clear en_
             have ea_ := Option.some.inj (hx342_2.symm.trans hx343_2)
             injection ea_ with ea_ en_ ec_
             subst ea_
             subst ec_
             clear en_
             have p344 : 0 ≤ (0 : Int) := (by omega)
             have q344 : 0 < (((rd_T35 l0 x7_3).f2).length : Int) := od_
             obtain ⟨ad344, e344, hx344_0⟩ := Kd.at_int HR343_2.out 0 p344 q344
             cases e344
             have qi344 : (0 < ((rd_T35 l0 x7_3).f2).length) = True := eq_true (by omega)
             (try rw [show ((0 : Int)).toNat = 0 from rfl] at hx344_0)
             (try rw [Addr.add_zero'] at hx344_0)
             replace hx344_0 := (HB.out.cell (World.block_lt_of_cell? w _ hx344_0)).trans hx344_0
             replace p344 := eq_true p344
             replace q344 := eq_true q344
             go_wp2
             go_roundg k3
             case measure => have := HK1.out; have := HJ3.out; have := HK3.out; omega
             case rel => exact ⟨(((rd ((rd_T35 l0 x7_3).f2) 0) == x5_1)), (wrap64 (x7_3 + 1)), (by first | rfl | (simp; done) | (simp [*]; done)), (by first | rfl | (simp; done) | (simp [*]; done)), H', ⟨by have := HK1.out; have := HJ3.out; have := HK3.out; omega⟩, ⟨mvR_ HO_4.out⟩, ⟨bq0_ HB.out⟩⟩
            ·rw [if_neg c11] at H
             exact absurd H (by simp)
           ·rw [if_neg c10] at H
            have c10b0 : (((rd_T35 l0 x7_3).f0) == 2) = false := beq_eq_false_iff_ne.mpr c10
            have c10b1 : (((rd_T35 l0 x7_3).f0) != 2) = true := bne_iff_ne.mpr c10
            have H' := Aside0.mk H
            clear H
            have p342 : 0 ≤ (x7_3 : Int) := od_
            have q342 : x7_3 < (l0.length : Int) := od_
            obtain ⟨ad342, A342_1, c342_1, A342_2, c342_2, e342, hx342_0, hx342_1, hx342_2, hl342_1, hi342_1, hl342_2, hi342_2⟩ := at_T35 HR0.out x7_3 p342 q342
            cases e342
            replace hx342_0 := (HB.out.cell (World.block_lt_of_cell? w _ hx342_0)).trans hx342_0
            replace hx342_1 := (HB.out.cell (World.block_lt_of_cell? w _ hx342_1)).trans hx342_1
            replace hx342_2 := (HB.out.cell (World.block_lt_of_cell? w _ hx342_2)).trans hx342_2
            have HR342_1 := Aside0.mk hi342_1
            have HC342_1 := Aside0.mk hl342_1
            clear hi342_1 hl342_1
            have HR342_2 := Aside0.mk hi342_2
            have HC342_2 := Aside0.mk hl342_2
            clear hi342_2 hl342_2
            replace p342 := eq_true p342
            replace q342 := eq_true q342
            go_wp2
            go_roundg k3
            case measure => have := HK1.out; have := HJ3.out; have := HK3.out; omega
            case rel => exact ⟨(false), (wrap64 (x7_3 + 1)), (by first | rfl | (simp; done) | (simp [*]; done)), (by first | rfl | (simp; done) | (simp [*]; done)), H', ⟨by have := HK1.out; have := HJ3.out; have := HK3.out; omega⟩, ⟨mvR_ HO_4.out⟩, ⟨bq0_ HB.out⟩⟩
          ·rw [if_neg c9] at H
           exact absurd H (by simp)
        ·rw [if_neg c7] at H
         have c7b0 : decide (x7_3 < (l0.length : Int)) = false := decide_eq_false c7
         clear c7
         by_cases c12 : x6_3 = true
         ·subst c12
          have H1 : (if x4_1.length < 17592186044416 then (fullerref10_Params.l0 k3 l0 t341 (x4_1 ++ [x5_1]) (wrap64 (x5_1 + 1))) else (none)) = some r := by rw [if_pos rfl] at H; exact H
          clear H
          have H := H1
          clear H1
          by_cases c13 : x4_1.length < 17592186044416
          ·rw [if_pos c13] at H
           have LMc13 := Aside0.mk c13
           clear c13
           obtain ⟨y345, hy345⟩ : ∃ y_ : List Int, y_ = (x4_1 ++ [x5_1]) := ⟨_, rfl⟩
           replace H : (fullerref10_Params.l0 k3 l0 t341 y345 (wrap64 (x5_1 + 1))) = some r := by first | (rw [hy345]; with_reducible exact H) | (have H2_ := (Option.bind_some _ _).symm.trans H; rw [hy345]; with_reducible exact H2_) | (have H2_ := (Option.bind_some _ _).symm.trans H; with_reducible exact H2_) | with_reducible exact H | (rw [hy345]; exact H) | exact H
           have Ny345 := Aside0.mk hy345
           clear hy345
           have H' := Aside0.mk H
           clear H
           go_wp2_with (first | ((with_reducible refine gate_builtin (b := .append) (xs := #[.tmp 44, .tmp 46]) rfl ?_); at_builtin; refine Kd.R_append (Kd.int .i64) (w0 := w) w.heap.size rfl (.tmp 44) (.tmp 46) 25 3 (.int .i64 0) 8 rfl Try.underlying25 info3 rfl (by decide) (by omega) u4 x4_1 x5_1 [.int .i64 x5_1] (fun _ => True) (fun _ => False) rfl rfl ?aP (fun _ hk => hk.elim) ?aF ?aO ?aB ?aS ?aL ?_; (case aP => exact rfl); (case aB => exact (bq0_ HB.out)); (case aF => exact (fun _ _ => trivial)); (case aO => exact (mvR_ HO_4.out)); (case aS => exact (below_size (bq0_ HB.out))); (case aL => have := LMc13.out; omega); intro v346 w14 ho hb hg hat; rw [← Ny345.out] at ho; have HO347 := Aside0.mk (ho); replace HB := Aside0.mk (hb); clear HO_4 ho hb hg hat))
           go_roundg k3
           case measure => have := HK1.out; have := HJ3.out; have := HK3.out; omega
           case rel => exact ⟨(y345), (wrap64 (x5_1 + 1)), (by first | rfl | (simp; done) | (simp [*]; done)), H', ⟨by have := HK1.out; have := HJ3.out; have := HK3.out; omega⟩, ⟨mvR_ HO347.out⟩, ⟨bq0_ HB.out⟩⟩
          ·rw [if_neg c13] at H
           exact absurd H (by simp)
         ·replace c12 := Bool.eq_false_iff.mpr c12
          subst c12
          have H1 : (fullerref10_Params.l0 k3 l0 t341 x4_1 (wrap64 (x5_1 + 1))) = some r := by rw [if_neg (show ¬ (false = true) by decide)] at H; exact H
          clear H
          have H := H1
          clear H1
          have H' := Aside0.mk H
          clear H
          go_wp2
          go_roundg k3
          case measure => have := HK1.out; have := HJ3.out; have := HK3.out; omega
          case rel => exact ⟨(x4_1), (wrap64 (x5_1 + 1)), (by first | rfl | (simp; done) | (simp [*]; done)), H', ⟨by have := HK1.out; have := HJ3.out; have := HK3.out; omega⟩, ⟨mvR_ HO_4.out⟩, ⟨bq0_ HB.out⟩⟩
     ·replace c6 := Bool.eq_false_iff.mpr c6
      subst c6
      have H1 : (some x4_1) = some r := by rw [if_neg (show ¬ (false = true) by decide)] at H; exact H
      clear H
      have H := H1
      clear H1
      obtain rfl := Option.some.inj H
      go_wp2
      go_ret
      exact ⟨_, by first | rfl | (simp <;> rfl) | (simp [*] <;> rfl), mvR_ HO_4.out, bq0_ HB.out⟩

end Go.Proofs.Ytklnbfdoklcmfaa.A
