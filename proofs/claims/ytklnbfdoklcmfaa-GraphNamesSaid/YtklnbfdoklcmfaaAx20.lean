/- Lean functions that answer as the Go functions do, and the proofs that they do; no conditions. Written by this session's own driver: a scratch copy of the kit's print with the session's additions (wip/xprint). -/
import Derived.Test.YtklnbfdoklcmfaaAx0
import Derived.Test.YtklnbfdoklcmfaaAx2
import Derived.Test.YtklnbfdoklcmfaaAx3
import Derived.Test.YtklnbfdoklcmfaaAx10
import Derived.Test.YtklnbfdoklcmfaaAx11
import Derived.Test.YtklnbfdoklcmfaaAx12
import Derived.Test.YtklnbfdoklcmfaaAx16
namespace Go.Proofs.Ytklnbfdoklcmfaa.A
open Go.RowKit Go.Proofs.YtklnbfdoklcmfaaW.PrintWords Go.Proofs.YtklnbfdoklcmfaaW.PrintLast Go.Proofs.YtklnbfdoklcmfaaW.PrintMore
attribute [local go_sem] max2_int min2_int max_two min_two max_three min_three max_four min_four   -- for this text's walks alone
set_option linter.unusedVariables false
set_option linter.unusedSimpArgs false

def L6_0 : Array Bool := #[false, false, false, false, false, false, false, false, false, false, false, false, false]
def L6_1 : Array Bool := #[true, false, false, false, false, false, false, false, false, false, false, false, false]
def L6_2 : Array Bool := #[true, true, false, false, false, false, false, false, false, false, false, false, false]
def L6_3 : Array Bool := #[true, true, true, false, false, false, false, false, false, false, false, false, false]
def L6_4 : Array Bool := #[true, true, true, true, false, false, false, false, false, false, false, false, false]
def L6_5 : Array Bool := #[true, true, true, true, false, false, true, false, false, false, false, false, false]
def L6_6 : Array Bool := #[true, true, true, true, false, false, true, true, false, false, false, false, false]
def L6_7 : Array Bool := #[true, true, true, true, false, false, true, true, true, false, false, false, false]
def L6_8 : Array Bool := #[true, true, true, true, false, false, true, true, true, true, false, false, false]
def L6_9 : Array Bool := #[true, true, true, true, true, false, true, true, true, true, false, false, false]
def L6_10 : Array Bool := #[true, true, true, true, true, false, true, true, true, true, true, false, false]
def L6_11 : Array Bool := #[true, true, true, true, true, false, true, true, true, true, true, true, false]
def L6_12 : Array Bool := #[true, true, true, true, true, true, true, true, true, true, true, true, false]
def L6_13 : Array Bool := #[true, true, true, true, true, true, true, true, true, true, true, true, true]
def L6_14 : Array Bool := #[false, false, false, false, false, false, false, false, false, false, false, false, false, false, false, false, false, false, false, false, false, false, false, false]
def L6_15 : Array Bool := #[true, false, false, false, false, false, false, false, false, false, false, false, false, false, false, false, false, false, false, false, false, false, false, false]
def L6_16 : Array Bool := #[true, true, false, false, false, false, false, false, false, false, false, false, false, false, false, false, false, false, false, false, false, false, false, false]
def L6_17 : Array Bool := #[true, true, true, true, true, true, true, true, true, true, true, true, true, true, true, true, true, true, true, true, true, true, false, false]
def L6_18 : Array Bool := #[true, true, true, true, true, true, true, true, true, true, true, true, true, true, true, true, true, true, true, true, true, true, true, false]
def L6_19 : Array Bool := #[true, true, true, true, true, true, true, true, true, true, true, true, true, true, true, true, true, true, true, true, true, true, true, true]
def L6_20 : Array Bool := #[true, true, true, false, false, false, false, false, false, false, false, false, false, false, false, false, false, false, false, false, false, false, false, false]
def L6_21 : Array Bool := #[true, true, true, true, false, false, false, false, false, false, false, false, false, false, false, false, false, false, false, false, false, false, false, false]
def L6_22 : Array Bool := #[true, true, true, true, true, false, false, false, false, false, false, false, false, false, false, false, false, false, false, false, false, false, false, false]
def L6_23 : Array Bool := #[true, true, true, true, true, true, false, false, false, false, false, false, false, false, false, false, false, false, false, false, false, false, false, false]
def L6_24 : Array Bool := #[true, true, true, true, true, true, true, false, false, false, false, false, false, false, false, false, false, false, false, false, false, false, false, false]
def L6_25 : Array Bool := #[true, true, true, true, true, true, true, true, false, false, false, false, false, false, false, false, false, false, false, false, false, false, false, false]
def L6_26 : Array Bool := #[true, true, true, true, true, true, true, true, true, false, false, false, false, false, false, false, false, false, false, false, false, false, false, false]
def L6_27 : Array Bool := #[true, true, true, true, true, true, true, true, true, true, false, false, false, false, false, false, false, false, false, false, false, false, false, false]
def L6_28 : Array Bool := #[true, true, true, true, true, true, true, true, true, true, true, false, false, false, false, false, false, false, false, false, false, false, false, false]
def L6_29 : Array Bool := #[true, true, true, true, true, true, true, true, true, true, true, true, false, false, false, false, false, false, false, false, false, false, false, false]
def L6_30 : Array Bool := #[true, true, true, true, true, true, true, true, true, true, true, true, true, false, false, false, false, false, false, false, false, false, false, false]
def L6_31 : Array Bool := #[true, true, true, true, true, true, true, true, true, true, true, true, true, false, false, false, true, false, false, false, false, false, false, false]
def L6_32 : Array Bool := #[true, true, true, true, true, true, true, true, true, true, true, true, true, false, false, false, true, true, false, false, false, false, false, false]
def L6_33 : Array Bool := #[true, true, true, true, true, true, true, true, true, true, true, true, true, false, false, false, true, true, true, false, false, false, false, false]
def L6_34 : Array Bool := #[true, true, true, true, true, true, true, true, true, true, true, true, true, true, false, false, true, true, true, false, false, false, false, false]
def L6_35 : Array Bool := #[true, true, true, true, true, true, true, true, true, true, true, true, true, true, true, false, true, true, true, false, false, false, false, false]
def L6_36 : Array Bool := #[true, true, true, true, true, true, true, true, true, true, true, true, true, true, true, true, true, true, true, false, false, false, false, false]
def L6_37 : Array Bool := #[true, true, true, true, true, true, true, true, true, true, true, true, true, true, true, true, true, true, true, true, false, false, false, false]
def L6_38 : Array Bool := #[true, true, true, true, true, true, true, true, true, true, true, true, true, true, true, true, true, true, true, true, true, false, false, false]
def L6_39 : Array Bool := #[false, false, false, false, false, false, false, false, false, false, false, false, false, false, false, false, false, false]
def L6_40 : Array Bool := #[true, false, false, false, false, false, false, false, false, false, false, false, false, false, false, false, false, false]
def L6_41 : Array Bool := #[true, true, false, false, false, false, false, false, false, false, false, false, false, false, false, false, false, false]
def L6_42 : Array Bool := #[true, true, true, false, false, false, false, false, false, false, false, false, false, false, false, false, false, false]
def L6_43 : Array Bool := #[true, true, true, true, false, false, false, false, false, false, false, false, false, false, false, false, false, false]
def L6_44 : Array Bool := #[true, true, true, true, true, false, false, false, false, false, false, false, false, false, false, false, false, false]
def L6_45 : Array Bool := #[true, true, true, true, true, true, false, false, false, false, false, false, false, false, false, false, false, false]
def L6_46 : Array Bool := #[true, true, true, true, true, true, true, false, false, false, false, false, false, false, false, false, false, false]
def L6_47 : Array Bool := #[true, true, true, true, true, true, true, true, false, false, false, false, false, false, false, false, false, false]
def L6_48 : Array Bool := #[true, true, true, true, true, true, true, true, true, false, false, false, false, false, false, false, false, false]
def L6_49 : Array Bool := #[true, true, true, true, true, true, true, true, true, false, true, false, false, false, false, false, false, false]
def L6_50 : Array Bool := #[true, true, true, true, true, true, true, true, true, false, true, true, false, false, false, false, false, false]
def L6_51 : Array Bool := #[true, true, true, true, true, true, true, true, true, false, true, true, true, false, false, false, false, false]
def L6_52 : Array Bool := #[true, true, true, true, true, true, true, true, true, false, true, true, true, true, false, false, false, false]
def L6_53 : Array Bool := #[true, true, true, true, true, true, true, true, true, true, true, true, true, true, false, false, false, false]
def L6_54 : Array Bool := #[true, true, true, true, true, true, true, true, true, true, true, true, true, true, true, false, false, false]
def L6_55 : Array Bool := #[true, true, true, true, true, true, true, true, true, true, true, true, true, true, true, true, false, false]
def L6_56 : Array Bool := #[true, true, true, true, true, true, true, true, true, true, true, true, true, true, true, true, true, false]
def L6_57 : Array Bool := #[true, true, true, true, true, true, true, true, true, true, true, true, true, true, true, true, true, true]
/-! ### fullerlaw10_GraphNames: function 6 -/
mutual
def fullerlaw10_GraphNames.j0 : Nat → List (S35) → Bool → Bool → Option (Bool)
 | 0, _, _, _ => none
 | k + 1, x0, x3, x20 => if x20 = true then (some x3) else ((graph_Params.f k x0).bind fun t504 => ((graph_Inputs.f x0).bind fun bt507 => (fullerlaw10_GraphNames.l0 k x0 x3 t504 bt507.1 bt507.2 0 0)))
def fullerlaw10_GraphNames.l0 : Nat → List (S35) → Bool → List Int → List Int → Bool → Int → Int → Option (Bool)
 | 0, _, _, _, _, _, _, _ => none
 | k + 1, x0, x3, x4, x5, x6, x7, x8 => if x8 < (x0.length : Int) then (if 0 ≤ x8 then (if ((rd_T35 x0 x8).f0) = 2 then (if 0 < (((rd_T35 x0 x8).f2).length : Int) then ((fullerref10_In.f k x4 (rd ((rd_T35 x0 x8).f2) 0)).bind fun t514 => (if t514 = true then (if ((rd_T35 x0 x8).f0) = 1 then (if x6 = true then ((fullerref02_Same.f k x5 ((rd_T35 x0 x8).f2)).bind fun t517 => (fullerlaw10_GraphNames.j2 k x0 x3 x4 x5 x6 x7 x8 (!t517))) else (fullerlaw10_GraphNames.j2 k x0 x3 x4 x5 x6 x7 x8 true)) else (fullerlaw10_GraphNames.j2 k x0 x3 x4 x5 x6 x7 x8 false)) else (fullerlaw10_GraphNames.j2 k x0 x3 x4 x5 x6 x7 x8 true))) else (none)) else (if ((rd_T35 x0 x8).f0) = 1 then (if x6 = true then ((fullerref02_Same.f k x5 ((rd_T35 x0 x8).f2)).bind fun t520 => (fullerlaw10_GraphNames.j2 k x0 x3 x4 x5 x6 x7 x8 (!t520))) else (fullerlaw10_GraphNames.j2 k x0 x3 x4 x5 x6 x7 x8 true)) else (fullerlaw10_GraphNames.j2 k x0 x3 x4 x5 x6 x7 x8 false))) else (none)) else (fullerlaw10_GraphNames.l1 k x0 x3 x4 x6 x7 0)
def fullerlaw10_GraphNames.j2 : Nat → List (S35) → Bool → List Int → List Int → Bool → Int → Int → Bool → Option (Bool)
 | 0, _, _, _, _, _, _, _, _ => none
 | k + 1, x0, x3, x4, x5, x6, x7, x8, x74 => if x74 = true then (some false) else (if 0 ≤ x8 then (if x8 < (x0.length : Int) then (if ((rd_T35 x0 x8).f0) = 1 then ((graph_Arity.f ((rd_T35 x0 x8).f0)).bind fun t523 => (if t523 = (((rd_T35 x0 x8).f1).length : Int) then (fullerlaw10_GraphNames.l0 k x0 x3 x4 x5 x6 (wrap64 (x7 + 1)) (wrap64 (x8 + 1))) else (some false))) else ((graph_Arity.f ((rd_T35 x0 x8).f0)).bind fun t526 => (if t526 = (((rd_T35 x0 x8).f1).length : Int) then (fullerlaw10_GraphNames.l0 k x0 x3 x4 x5 x6 x7 (wrap64 (x8 + 1))) else (some false)))) else (none)) else (none))
def fullerlaw10_GraphNames.l1 : Nat → List (S35) → Bool → List Int → Bool → Int → Int → Option (Bool)
 | 0, _, _, _, _, _, _ => none
 | k + 1, x0, x3, x4, x6, x7, x9 => if x9 < (x4.length : Int) then (fullerlaw10_GraphNames.l2 k x0 x3 x4 x6 x7 x9 false 0) else (if x3 = true then (some (x6 == (decide (x7 > 0)))) else (some false))
def fullerlaw10_GraphNames.l2 : Nat → List (S35) → Bool → List Int → Bool → Int → Int → Bool → Int → Option (Bool)
 | 0, _, _, _, _, _, _, _, _ => none
 | k + 1, x0, x3, x4, x6, x7, x9, x10, x11 => if x11 < (x0.length : Int) then (if x10 = true then (fullerlaw10_GraphNames.l2 k x0 x3 x4 x6 x7 x9 true (wrap64 (x11 + 1))) else (if 0 ≤ x11 then (if ((rd_T35 x0 x11).f0) = 2 then (if 0 < (((rd_T35 x0 x11).f2).length : Int) then (if 0 ≤ x9 then (if x9 < (x4.length : Int) then (fullerlaw10_GraphNames.l2 k x0 x3 x4 x6 x7 x9 ((rd ((rd_T35 x0 x11).f2) 0) == (rd x4 x9)) (wrap64 (x11 + 1))) else (none)) else (none)) else (none)) else (fullerlaw10_GraphNames.l2 k x0 x3 x4 x6 x7 x9 false (wrap64 (x11 + 1)))) else (none))) else (if x10 = true then (if x9 > 0 then (if 0 ≤ x9 then (if x9 < (x4.length : Int) then (if 0 ≤ (wrap64 (x9 - 1)) then (if (wrap64 (x9 - 1)) < (x4.length : Int) then (if (rd x4 x9) ≤ (rd x4 (wrap64 (x9 - 1))) then (some false) else (fullerlaw10_GraphNames.l1 k x0 x3 x4 x6 x7 (wrap64 (x9 + 1)))) else (none)) else (none)) else (none)) else (none)) else (fullerlaw10_GraphNames.l1 k x0 x3 x4 x6 x7 (wrap64 (x9 + 1)))) else (some false))
end
def fullerlaw10_GraphNames.f (k : Nat) (l0 : List (S35)) : Option (Bool) := (fullerlaw10_awake.f k).bind fun t501 => ((fullerref10_Few.f k l0).bind fun t502 => (if t502 = true then ((graph_Check.f l0).bind fun t503 => (fullerlaw10_GraphNames.j0 k l0 t501 (!t503))) else (fullerlaw10_GraphNames.j0 k l0 t501 true)))
theorem fullerlaw10_GraphNames.mono_l : ∀ k, (∀ y0 y1 y2, LeO (fullerlaw10_GraphNames.j0 k y0 y1 y2) (fullerlaw10_GraphNames.j0 (k + 1) y0 y1 y2)) ∧ (∀ y0 y1 y2 y3 y4 y5 y6, LeO (fullerlaw10_GraphNames.l0 k y0 y1 y2 y3 y4 y5 y6) (fullerlaw10_GraphNames.l0 (k + 1) y0 y1 y2 y3 y4 y5 y6)) ∧ (∀ y0 y1 y2 y3 y4 y5 y6 y7, LeO (fullerlaw10_GraphNames.j2 k y0 y1 y2 y3 y4 y5 y6 y7) (fullerlaw10_GraphNames.j2 (k + 1) y0 y1 y2 y3 y4 y5 y6 y7)) ∧ (∀ y0 y1 y2 y3 y4 y5, LeO (fullerlaw10_GraphNames.l1 k y0 y1 y2 y3 y4 y5) (fullerlaw10_GraphNames.l1 (k + 1) y0 y1 y2 y3 y4 y5)) ∧ (∀ y0 y1 y2 y3 y4 y5 y6 y7, LeO (fullerlaw10_GraphNames.l2 k y0 y1 y2 y3 y4 y5 y6 y7) (fullerlaw10_GraphNames.l2 (k + 1) y0 y1 y2 y3 y4 y5 y6 y7))
 | 0 => ⟨fun _ _ _ r h => by simp [fullerlaw10_GraphNames.j0] at h, fun _ _ _ _ _ _ _ r h => by simp [fullerlaw10_GraphNames.l0] at h, fun _ _ _ _ _ _ _ _ r h => by simp [fullerlaw10_GraphNames.j2] at h, fun _ _ _ _ _ _ r h => by simp [fullerlaw10_GraphNames.l1] at h, fun _ _ _ _ _ _ _ _ r h => by simp [fullerlaw10_GraphNames.l2] at h⟩
 | k + 1 => by
  obtain ⟨ih0, ih1, ih2, ih3, ih4⟩ := fullerlaw10_GraphNames.mono_l k
  refine ⟨?_, ?_, ?_, ?_, ?_⟩
  ·intro y0 y1 y2
   unfold fullerlaw10_GraphNames.j0
   repeat' first
   | (with_reducible exact ih0 _ _ _)
   | (with_reducible exact ih1 _ _ _ _ _ _ _)
   | (with_reducible exact ih2 _ _ _ _ _ _ _ _)
   | (with_reducible exact ih3 _ _ _ _ _ _)
   | (with_reducible exact ih4 _ _ _ _ _ _ _ _)
   | (with_reducible exact fullerlaw10_awake.mono _)
   | (with_reducible exact fullerref02_Same.mono _ _ _)
   | (with_reducible exact fullerref10_Few.mono _ _)
   | (with_reducible exact fullerref10_In.mono _ _ _)
   | (with_reducible exact graph_Params.mono _ _)
   | (with_reducible exact LeO.refl _)
   | (with_reducible exact LeO.none _)
   | (with_reducible refine LeO.ite ?_ ?_)
   | (with_reducible refine LeO.bind ?_ (fun _ => ?_))
   | exact ih0 _ _ _
   | exact ih1 _ _ _ _ _ _ _
   | exact ih2 _ _ _ _ _ _ _ _
   | exact ih3 _ _ _ _ _ _
   | exact ih4 _ _ _ _ _ _ _ _
   | exact fullerlaw10_awake.mono _
   | exact fullerref02_Same.mono _ _ _
   | exact fullerref10_Few.mono _ _
   | exact fullerref10_In.mono _ _ _
   | exact graph_Params.mono _ _
   | exact LeO.none _
   | refine LeO.ite ?_ ?_
   | refine LeO.bind ?_ (fun _ => ?_)
  ·intro y0 y1 y2 y3 y4 y5 y6
   unfold fullerlaw10_GraphNames.l0
   repeat' first
   | (with_reducible exact ih0 _ _ _)
   | (with_reducible exact ih1 _ _ _ _ _ _ _)
   | (with_reducible exact ih2 _ _ _ _ _ _ _ _)
   | (with_reducible exact ih3 _ _ _ _ _ _)
   | (with_reducible exact ih4 _ _ _ _ _ _ _ _)
   | (with_reducible exact fullerlaw10_awake.mono _)
   | (with_reducible exact fullerref02_Same.mono _ _ _)
   | (with_reducible exact fullerref10_Few.mono _ _)
   | (with_reducible exact fullerref10_In.mono _ _ _)
   | (with_reducible exact graph_Params.mono _ _)
   | (with_reducible exact LeO.refl _)
   | (with_reducible exact LeO.none _)
   | (with_reducible refine LeO.ite ?_ ?_)
   | (with_reducible refine LeO.bind ?_ (fun _ => ?_))
   | exact ih0 _ _ _
   | exact ih1 _ _ _ _ _ _ _
   | exact ih2 _ _ _ _ _ _ _ _
   | exact ih3 _ _ _ _ _ _
   | exact ih4 _ _ _ _ _ _ _ _
   | exact fullerlaw10_awake.mono _
   | exact fullerref02_Same.mono _ _ _
   | exact fullerref10_Few.mono _ _
   | exact fullerref10_In.mono _ _ _
   | exact graph_Params.mono _ _
   | exact LeO.none _
   | refine LeO.ite ?_ ?_
   | refine LeO.bind ?_ (fun _ => ?_)
  ·intro y0 y1 y2 y3 y4 y5 y6 y7
   unfold fullerlaw10_GraphNames.j2
   repeat' first
   | (with_reducible exact ih0 _ _ _)
   | (with_reducible exact ih1 _ _ _ _ _ _ _)
   | (with_reducible exact ih2 _ _ _ _ _ _ _ _)
   | (with_reducible exact ih3 _ _ _ _ _ _)
   | (with_reducible exact ih4 _ _ _ _ _ _ _ _)
   | (with_reducible exact fullerlaw10_awake.mono _)
   | (with_reducible exact fullerref02_Same.mono _ _ _)
   | (with_reducible exact fullerref10_Few.mono _ _)
   | (with_reducible exact fullerref10_In.mono _ _ _)
   | (with_reducible exact graph_Params.mono _ _)
   | (with_reducible exact LeO.refl _)
   | (with_reducible exact LeO.none _)
   | (with_reducible refine LeO.ite ?_ ?_)
   | (with_reducible refine LeO.bind ?_ (fun _ => ?_))
   | exact ih0 _ _ _
   | exact ih1 _ _ _ _ _ _ _
   | exact ih2 _ _ _ _ _ _ _ _
   | exact ih3 _ _ _ _ _ _
   | exact ih4 _ _ _ _ _ _ _ _
   | exact fullerlaw10_awake.mono _
   | exact fullerref02_Same.mono _ _ _
   | exact fullerref10_Few.mono _ _
   | exact fullerref10_In.mono _ _ _
   | exact graph_Params.mono _ _
   | exact LeO.none _
   | refine LeO.ite ?_ ?_
   | refine LeO.bind ?_ (fun _ => ?_)
  ·intro y0 y1 y2 y3 y4 y5
   unfold fullerlaw10_GraphNames.l1
   repeat' first
   | (with_reducible exact ih0 _ _ _)
   | (with_reducible exact ih1 _ _ _ _ _ _ _)
   | (with_reducible exact ih2 _ _ _ _ _ _ _ _)
   | (with_reducible exact ih3 _ _ _ _ _ _)
   | (with_reducible exact ih4 _ _ _ _ _ _ _ _)
   | (with_reducible exact fullerlaw10_awake.mono _)
   | (with_reducible exact fullerref02_Same.mono _ _ _)
   | (with_reducible exact fullerref10_Few.mono _ _)
   | (with_reducible exact fullerref10_In.mono _ _ _)
   | (with_reducible exact graph_Params.mono _ _)
   | (with_reducible exact LeO.refl _)
   | (with_reducible exact LeO.none _)
   | (with_reducible refine LeO.ite ?_ ?_)
   | (with_reducible refine LeO.bind ?_ (fun _ => ?_))
   | exact ih0 _ _ _
   | exact ih1 _ _ _ _ _ _ _
   | exact ih2 _ _ _ _ _ _ _ _
   | exact ih3 _ _ _ _ _ _
   | exact ih4 _ _ _ _ _ _ _ _
   | exact fullerlaw10_awake.mono _
   | exact fullerref02_Same.mono _ _ _
   | exact fullerref10_Few.mono _ _
   | exact fullerref10_In.mono _ _ _
   | exact graph_Params.mono _ _
   | exact LeO.none _
   | refine LeO.ite ?_ ?_
   | refine LeO.bind ?_ (fun _ => ?_)
  ·intro y0 y1 y2 y3 y4 y5 y6 y7
   unfold fullerlaw10_GraphNames.l2
   repeat' first
   | (with_reducible exact ih0 _ _ _)
   | (with_reducible exact ih1 _ _ _ _ _ _ _)
   | (with_reducible exact ih2 _ _ _ _ _ _ _ _)
   | (with_reducible exact ih3 _ _ _ _ _ _)
   | (with_reducible exact ih4 _ _ _ _ _ _ _ _)
   | (with_reducible exact fullerlaw10_awake.mono _)
   | (with_reducible exact fullerref02_Same.mono _ _ _)
   | (with_reducible exact fullerref10_Few.mono _ _)
   | (with_reducible exact fullerref10_In.mono _ _ _)
   | (with_reducible exact graph_Params.mono _ _)
   | (with_reducible exact LeO.refl _)
   | (with_reducible exact LeO.none _)
   | (with_reducible refine LeO.ite ?_ ?_)
   | (with_reducible refine LeO.bind ?_ (fun _ => ?_))
   | exact ih0 _ _ _
   | exact ih1 _ _ _ _ _ _ _
   | exact ih2 _ _ _ _ _ _ _ _
   | exact ih3 _ _ _ _ _ _
   | exact ih4 _ _ _ _ _ _ _ _
   | exact fullerlaw10_awake.mono _
   | exact fullerref02_Same.mono _ _ _
   | exact fullerref10_Few.mono _ _
   | exact fullerref10_In.mono _ _ _
   | exact graph_Params.mono _ _
   | exact LeO.none _
   | refine LeO.ite ?_ ?_
   | refine LeO.bind ?_ (fun _ => ?_)
theorem fullerlaw10_GraphNames.mono : ∀ a0 k, LeO (fullerlaw10_GraphNames.f k a0) (fullerlaw10_GraphNames.f (k + 1) a0) := by
 intro a0 k
 obtain ⟨ih0, ih1, ih2, ih3, ih4⟩ := fullerlaw10_GraphNames.mono_l k
 unfold fullerlaw10_GraphNames.f
 repeat' first
   | (with_reducible exact ih0 _ _ _)
   | (with_reducible exact ih1 _ _ _ _ _ _ _)
   | (with_reducible exact ih2 _ _ _ _ _ _ _ _)
   | (with_reducible exact ih3 _ _ _ _ _ _)
   | (with_reducible exact ih4 _ _ _ _ _ _ _ _)
   | (with_reducible exact fullerlaw10_awake.mono _)
   | (with_reducible exact fullerref02_Same.mono _ _ _)
   | (with_reducible exact fullerref10_Few.mono _ _)
   | (with_reducible exact fullerref10_In.mono _ _ _)
   | (with_reducible exact graph_Params.mono _ _)
   | (with_reducible exact LeO.refl _)
   | (with_reducible exact LeO.none _)
   | (with_reducible refine LeO.ite ?_ ?_)
   | (with_reducible refine LeO.bind ?_ (fun _ => ?_))
   | exact ih0 _ _ _
   | exact ih1 _ _ _ _ _ _ _
   | exact ih2 _ _ _ _ _ _ _ _
   | exact ih3 _ _ _ _ _ _
   | exact ih4 _ _ _ _ _ _ _ _
   | exact fullerlaw10_awake.mono _
   | exact fullerref02_Same.mono _ _ _
   | exact fullerref10_Few.mono _ _
   | exact fullerref10_In.mono _ _ _
   | exact graph_Params.mono _ _
   | exact LeO.none _
   | refine LeO.ite ?_ ?_
   | refine LeO.bind ?_ (fun _ => ?_)
def fullerlaw10_GraphNames.T14 : Bool × List (List Nat × List Nat) := (true, [([], []), ([], []), ([0, 1], [0, 1]), ([2], [2]), ([3], [3]), ([4], [4]), ([], []), ([], []), ([6, 7], [6, 7]), ([8], [8]), ([9], [9]), ([10], [10]), ([5, 11], [5, 11])])
def fullerlaw10_GraphNames.B14 : List Nat := [0, 0, 3, 7, 15, 31, 0, 0, 192, 448, 960, 1984, 4095]
theorem fullerlaw10_GraphNames.tab14 : rtab .any (opsOf Try.f6 14) = fullerlaw10_GraphNames.T14 := by kernel_rfl
theorem fullerlaw10_GraphNames.bits14 : waitsOk fullerlaw10_GraphNames.T14.2 fullerlaw10_GraphNames.B14 = true := by kernel_rfl
def fullerlaw10_GraphNames.T23 : Bool × List (List Nat × List Nat) := (true, [([], []), ([0], [0]), ([1], [1]), ([1], [1]), ([2, 3, 1], [1, 2, 3]), ([4, 1], [1, 4]), ([5, 1], [1, 5]), ([6, 1], [1, 6]), ([7, 1, 1], [1, 7]), ([8], [8]), ([8], [8]), ([9, 10, 8], [8, 9, 10]), ([11, 8], [8, 11]), ([12, 8], [8, 12]), ([13, 8], [8, 13]), ([14, 8], [8, 14]), ([8], [8]), ([8], [8]), ([16, 17, 8], [8, 16, 17]), ([18, 8], [8, 18]), ([15, 19, 8], [8, 15, 19]), ([8, 20, 1], [1, 8, 20]), ([1, 21], [1, 21]), ([22, 8, 0, 1, 2, 3, 4, 5, 6, 7, 8, 9, 10, 11, 12, 13, 14, 15, 16, 17, 18, 19, 20, 21, 22], [0, 22])])
def fullerlaw10_GraphNames.B23 : List Nat := [0, 1, 3, 3, 15, 31, 63, 127, 255, 511, 511, 2047, 4095, 8191, 16383, 32767, 511, 511, 197119, 459263, 1048575, 2097151, 4194303, 8388607]
theorem fullerlaw10_GraphNames.tab23 : rtab .any (opsOf Try.f6 23) = fullerlaw10_GraphNames.T23 := by kernel_rfl
theorem fullerlaw10_GraphNames.bits23 : waitsOk fullerlaw10_GraphNames.T23.2 fullerlaw10_GraphNames.B23 = true := by kernel_rfl
def fullerlaw10_GraphNames.T24 : Bool × List (List Nat × List Nat) := (true, [([], []), ([0], [0]), ([1], [1]), ([2], [2]), ([3, 2], [2, 3]), ([4, 2, 2], [2, 4]), ([5], [5]), ([5], [5]), ([6, 7, 5], [5, 6, 7]), ([8, 5], [5, 8]), ([5], [5]), ([5], [5]), ([11, 5], [5, 11]), ([10, 12, 5], [5, 10, 12]), ([13, 5], [5, 13]), ([9, 14, 5], [5, 9, 14]), ([5, 15, 2], [2, 5, 15]), ([2, 16], [2, 16])])
def fullerlaw10_GraphNames.B24 : List Nat := [0, 1, 3, 7, 15, 31, 63, 63, 255, 511, 63, 63, 2111, 7231, 15423, 32767, 65535, 131071]
theorem fullerlaw10_GraphNames.tab24 : rtab .any (opsOf Try.f6 24) = fullerlaw10_GraphNames.T24 := by kernel_rfl
theorem fullerlaw10_GraphNames.bits24 : waitsOk fullerlaw10_GraphNames.T24.2 fullerlaw10_GraphNames.B24 = true := by kernel_rfl
set_option maxHeartbeats 8000000 in
set_option maxRecDepth 100000 in
theorem fullerlaw10_GraphNames.calls (k : Nat) (A0 : Option Addr) (c0 : Nat) (l0 : List (S35)) (r : Bool) (w : World) (hr0 : Kd.C k35 w A0 l0.length l0) (hc0 : l0.length ≤ c0) (h : fullerlaw10_GraphNames.f k l0 = some r) :
  Calls Try.prog 6 #[.slice A0 l0.length c0] w fun e w' => e = .returned (.bool r) ∧ Below w.heap.size w w' := by
 have HR0 := Aside0.mk hr0
 have HC0 := Aside0.mk hc0
 clear hr0 hc0
 have HB := Aside0.mk (Below.refl w.heap.size w)
 have H : ((fullerlaw10_awake.f k).bind fun t501 => ((fullerref10_Few.f k l0).bind fun t502 => (if t502 = true then ((graph_Check.f l0).bind fun t503 => (fullerlaw10_GraphNames.j0 k l0 t501 (!t503))) else (fullerlaw10_GraphNames.j0 k l0 t501 true)))) = some r := h
 clear h
 replace H := Option.bind_eq_some_iff.mp H
 obtain ⟨t501, A20, H⟩ := H
 replace H : ((fullerref10_Few.f k l0).bind fun t502 => (if t502 = true then ((graph_Check.f l0).bind fun t503 => (fullerlaw10_GraphNames.j0 k l0 t501 (!t503))) else (fullerlaw10_GraphNames.j0 k l0 t501 true))) = some r := H
 have A2 := Aside0.mk A20
 clear A20
 have HC3 := Aside0.mk H
 clear H
 go_enter Try.func6, Try.ntmps6
 go_upto_region 2 with (first | ((with_reducible refine gate_callee (f := 9) rfl ?_); refine gL_ (some 12) Try.func9 #[] ?_; (with_reducible refine (fullerlaw10_awake.calls k  t501 _ A2.out).mono ?_); rintro e w4 ⟨rfl, hb⟩; refine ⟨_, rfl, ?_⟩; replace HB := Aside0.mk (below_step (bq0_ HB.out) hb); (try clear hb)))
 (try simp only [Act.put, sA_, sB_, sC_])
 go_cut [20] (fun v20 wc => ∃ (kq : Nat) (x20_2 : Bool), v20 = .bool x20_2 ∧ Aside0 (fullerlaw10_GraphNames.j0 kq l0 t501 x20_2 = some r) ∧ Aside0 (kq ≤ k) ∧ Aside0 (Below w.heap.size w wc))
 case first =>
  have H := HC3.out
  clear HC3
  replace H := Option.bind_eq_some_iff.mp H
  obtain ⟨t502, A50, H⟩ := H
  replace H : (if t502 = true then ((graph_Check.f l0).bind fun t503 => (fullerlaw10_GraphNames.j0 k l0 t501 (!t503))) else (fullerlaw10_GraphNames.j0 k l0 t501 true)) = some r := H
  have A5 := Aside0.mk A50
  clear A50
  by_cases c6 : t502 = true
  ·subst c6
   have H1 : ((graph_Check.f l0).bind fun t503 => (fullerlaw10_GraphNames.j0 k l0 t501 (!t503))) = some r := by rw [if_pos rfl] at H; exact H
   clear H
   have H := H1
   clear H1
   replace H := Option.bind_eq_some_iff.mp H
   obtain ⟨t503, A70, H⟩ := H
   replace H : (fullerlaw10_GraphNames.j0 k l0 t501 (!t503)) = some r := H
   have A7 := Aside0.mk A70
   clear A70
   have H' := Aside0.mk H
   clear H
   go_wp2_with (first | ((with_reducible refine gate_callee (f := 10) rfl ?_); refine gL_ (some 14) Try.func10 #[.slice A0 l0.length c0] ?_; (with_reducible refine (fullerref10_Few.calls k _ _ l0 true _ ?side1 ?side2 A5.out).mono ?_); (case side1 => exact mvC_ ((Kd.C_below HR0.out HB.out))); (case side2 => exact HC0.out); rintro e w' ⟨rfl, ⟨nd, rfl⟩⟩; refine ⟨_, rfl, ?_⟩) | (go_at_call 13; (with_reducible refine (graph_Check.calls _ _ l0 t503 _ ?side1 ?side2 A7.out).mono ?_); (case side1 => repeat (first | exact (Kd.C_below HR0.out (bq0_ HB.out)) | (with_reducible refine Kd.C_alloc ?_ _) | (with_reducible refine Kd.C_drewN ?_ _) | (with_reducible refine Kd.C_drew ?_))); (case side2 => exact HC0.out); rintro e w8 ⟨rfl, hb⟩; replace HB := Aside0.mk (below_step (bq0_ HB.out) hb); (try clear hb)))
   go_meet
   case rel => exact ⟨_, (!t503), (by first | rfl | (simp; done) | (simp [*]; done)), H', ⟨by first | omega | exact Nat.le_refl _⟩, ⟨bq0_ HB.out⟩⟩
  ·replace c6 := Bool.eq_false_iff.mpr c6
   subst c6
   have H1 : (fullerlaw10_GraphNames.j0 k l0 t501 true) = some r := by rw [if_neg (show ¬ (false = true) by decide)] at H; exact H
   clear H
   have H := H1
   clear H1
   have H' := Aside0.mk H
   clear H
   go_wp2_with (first | ((with_reducible refine gate_callee (f := 10) rfl ?_); refine gL_ (some 14) Try.func10 #[.slice A0 l0.length c0] ?_; (with_reducible refine (fullerref10_Few.calls k _ _ l0 false _ ?side1 ?side2 A5.out).mono ?_); (case side1 => exact mvC_ ((Kd.C_below HR0.out HB.out))); (case side2 => exact HC0.out); rintro e w' ⟨rfl, ⟨nd, rfl⟩⟩; refine ⟨_, rfl, ?_⟩))
   go_meet
   case rel => exact ⟨_, (true), (by first | rfl | (simp; done) | (simp [*]; done)), H', ⟨by first | omega | exact Nat.le_refl _⟩, ⟨bq0_ HB.out⟩⟩
 case rest =>
  clear HC3
  try clear c1
  try clear p2
  try clear c6
  obtain ⟨kq, x20_2, rfl, HA, HJ2, HB⟩ := hcut
  cases kq with
  | zero => exact absurd HA.out (by simp [fullerlaw10_GraphNames.j0])
  | succ kj2 =>
   have H := HA.out
   clear HA
   simp only [fullerlaw10_GraphNames.j0] at H
   by_cases c9 : x20_2 = true
   ·subst c9
    have H1 : (some t501) = some r := by rw [if_pos rfl] at H; exact H
    clear H
    have H := H1
    clear H1
    obtain rfl := Option.some.inj H
    go_wp2
    go_ret
    exact ⟨by first | rfl | (simp <;> rfl) | (simp [*] <;> rfl), bq0_ HB.out⟩
   ·replace c9 := Bool.eq_false_iff.mpr c9
    subst c9
    have H1 : ((graph_Params.f kj2 l0).bind fun t504 => ((graph_Inputs.f l0).bind fun bt507 => (fullerlaw10_GraphNames.l0 kj2 l0 t501 t504 bt507.1 bt507.2 0 0))) = some r := by rw [if_neg (show ¬ (false = true) by decide)] at H; exact H
    clear H
    have H := H1
    clear H1
    replace H := Option.bind_eq_some_iff.mp H
    obtain ⟨t504, A100, H⟩ := H
    replace H : ((graph_Inputs.f l0).bind fun bt507 => (fullerlaw10_GraphNames.l0 kj2 l0 t501 t504 bt507.1 bt507.2 0 0)) = some r := H
    have A10 := Aside0.mk A100
    clear A100
    replace H := Option.bind_eq_some_iff.mp H
    obtain ⟨⟨t507, t508⟩, A110, H⟩ := H
    replace H : (fullerlaw10_GraphNames.l0 kj2 l0 t501 t504 t507 t508 0 0) = some r := H
    have A11 := Aside0.mk A110
    clear A110
    have H' := Aside0.mk H
    clear H
    go_wp2_with (first | ((with_reducible refine gate_callee (f := 18) rfl ?_); refine gL_ (some 23) Try.func18 #[.slice A0 l0.length c0] ?_; (with_reducible refine (graph_Params.calls kj2 _ _ l0 t504 _ ?side1 ?side2 A10.out).mono ?_); (case side1 => exact mvC_ ((Kd.C_below HR0.out HB.out))); (case side2 => exact HC0.out); rintro e w12 ⟨v505, rfl, ho0, hb⟩; refine ⟨_, rfl, ?_⟩; have HO506 := Aside0.mk (Kd.R_lower ho0 (below_size (bq0_ HB.out))); replace HB := Aside0.mk (below_step (bq0_ HB.out) hb); (try clear hb); (try clear ho0)) | ((with_reducible refine gate_callee (f := 11) rfl ?_); refine gL_ (some 26) Try.func11 #[.slice A0 l0.length c0] ?_; (with_reducible refine (graph_Inputs.calls _ _ l0 t507 t508 _ ?side1 ?side2 A11.out).mono ?_); (case side1 => exact mvC_ ((Kd.C_below HR0.out HB.out))); (case side2 => exact HC0.out); rintro e w13 ⟨v509, rfl, ho0, hb⟩; refine ⟨_, rfl, ?_⟩; have HO510 := Aside0.mk (Kd.R_lower (Kd.R_new' ho0 (Kd.R_lt (mvR_ HO506.out))) (below_size (bq0_ HB.out))); replace HO506 := Aside0.mk (Kd.R_elder' (mvR_ HO506.out) (Kd.R_base ho0) hb); replace HB := Aside0.mk (below_step (bq0_ HB.out) hb); (try clear hb); (try clear ho0)))
    go_loopg [7, 8] kj2 (fun kq v7 v8 w' => ∃ (x7_2 : Int) (x8_2 : Int), v7 = .int .i64 x7_2 ∧ v8 = .int .i64 x8_2 ∧ Aside0 (fullerlaw10_GraphNames.l0 kq l0 t501 t504 t507 t508 x7_2 x8_2 = some r) ∧ Aside0 (kq ≤ kj2) ∧ Aside0 (Kd.R (Kd.int .i64) 3 w' w.heap.size (fun k_ => some k_ ≠ (v509 : Value).ownBlock) v505 t504) ∧ Aside0 (Kd.R (Kd.int .i64) 3 w' w.heap.size (fun k_ => some k_ ≠ (v505 : Value).ownBlock) v509 t507) ∧ Aside0 (Below w.heap.size w w'))
    case atStart => exact ⟨(0), (0), (by first | rfl | (simp; done) | (simp [*]; done)), (by first | rfl | (simp; done) | (simp [*]; done)), H', ⟨Nat.le_refl _⟩, ⟨by (with_reducible repeat (first | apply Kd.R_alloc | apply Kd.R_drewN | apply Kd.R_drew)); exact Kd.R_mono HO506.out (fun _ hk => hk.2)⟩, ⟨by (with_reducible repeat (first | apply Kd.R_alloc | apply Kd.R_drewN | apply Kd.R_drew)); exact Kd.R_mono HO510.out (fun _ hk => hk.2)⟩, ⟨bq0_ HB.out⟩⟩
    case round =>
     clear H'
     try clear c1
     try clear p2
     try clear c6
     try clear c9
     try clear c10
     try clear c11
     try clear p2
     obtain ⟨x7_2, x8_2, rfl, rfl, HA, HK2, HO_4, HO_5, HB⟩ := hrel
     cases gk with
     | zero => exact absurd HA.out (by simp [fullerlaw10_GraphNames.l0])
     | succ k2 =>
      have H := HA.out
      clear HA
      simp only [fullerlaw10_GraphNames.l0] at H
      by_cases c14 : x8_2 < (l0.length : Int)
      ·rw [if_pos c14] at H
       have c14b0 : decide (x8_2 < (l0.length : Int)) = true := decide_eq_true c14
       clear c14
       have HC15 := Aside0.mk H
       clear H
       go_upto_region 10 with (fail)
       go_cut [74] (fun v74 wc => ∃ (kq : Nat) (x74_14 : Bool), v74 = .bool x74_14 ∧ Aside0 (fullerlaw10_GraphNames.j2 kq l0 t501 t504 t507 t508 x7_2 x8_2 x74_14 = some r) ∧ Aside0 (kq ≤ k2) ∧ Aside0 (Kd.R (Kd.int .i64) 3 wc w.heap.size (fun k_ => some k_ ≠ (v509 : Value).ownBlock) v505 t504) ∧ Aside0 (Kd.R (Kd.int .i64) 3 wc w.heap.size (fun k_ => some k_ ≠ (v505 : Value).ownBlock) v509 t507) ∧ Aside0 (Below w.heap.size w wc))
       case first =>
        have H := HC15.out
        clear HC15
        by_cases c16 : 0 ≤ x8_2
        ·rw [if_pos c16] at H
         have c16b0 : decide (0 ≤ x8_2) = true := decide_eq_true c16
         clear c16
         (first | rw [c16b0] | (simp only [i64_w, i32_w]; rw [c16b0]) | skip)
         by_cases c17 : ((rd_T35 l0 x8_2).f0) = 2
         ·rw [if_pos c17] at H
          obtain ⟨c17b0, c17b1⟩ := eqT_ c17
          clear c17
          by_cases c18 : 0 < (((rd_T35 l0 x8_2).f2).length : Int)
          ·rw [if_pos c18] at H
           have c18b0 : decide (0 < (((rd_T35 l0 x8_2).f2).length : Int)) = true := decide_eq_true c18
           have c18b1 : decide (0 < ((rd_T35 l0 x8_2).f2).length) = true := decide_eq_true (by omega)
           clear c18
           replace H := Option.bind_eq_some_iff.mp H
           obtain ⟨t514, A190, H⟩ := H
           replace H : (if t514 = true then (if ((rd_T35 l0 x8_2).f0) = 1 then (if t508 = true then ((fullerref02_Same.f k2 t507 ((rd_T35 l0 x8_2).f2)).bind fun t517 => (fullerlaw10_GraphNames.j2 k2 l0 t501 t504 t507 t508 x7_2 x8_2 (!t517))) else (fullerlaw10_GraphNames.j2 k2 l0 t501 t504 t507 t508 x7_2 x8_2 true)) else (fullerlaw10_GraphNames.j2 k2 l0 t501 t504 t507 t508 x7_2 x8_2 false)) else (fullerlaw10_GraphNames.j2 k2 l0 t501 t504 t507 t508 x7_2 x8_2 true)) = some r := H
           have A19 := Aside0.mk A190
           clear A190
           by_cases c20 : t514 = true
           ·subst c20
            have H1 : (if ((rd_T35 l0 x8_2).f0) = 1 then (if t508 = true then ((fullerref02_Same.f k2 t507 ((rd_T35 l0 x8_2).f2)).bind fun t517 => (fullerlaw10_GraphNames.j2 k2 l0 t501 t504 t507 t508 x7_2 x8_2 (!t517))) else (fullerlaw10_GraphNames.j2 k2 l0 t501 t504 t507 t508 x7_2 x8_2 true)) else (fullerlaw10_GraphNames.j2 k2 l0 t501 t504 t507 t508 x7_2 x8_2 false)) = some r := by rw [if_pos rfl] at H; exact H
            clear H
            have H := H1
            clear H1
            by_cases c21 : ((rd_T35 l0 x8_2).f0) = 1
            ·rw [if_pos c21] at H
             obtain ⟨c21b0, c21b1⟩ := eqT_ c21
             clear c21
             by_cases c22 : t508 = true
             ·subst c22
              have H1 : ((fullerref02_Same.f k2 t507 ((rd_T35 l0 x8_2).f2)).bind fun t517 => (fullerlaw10_GraphNames.j2 k2 l0 t501 t504 t507 true x7_2 x8_2 (!t517))) = some r := by rw [if_pos rfl] at H; exact H
              clear H
              have H := H1
              clear H1
              replace H := Option.bind_eq_some_iff.mp H
              obtain ⟨t517, A230, H⟩ := H
              replace H : (fullerlaw10_GraphNames.j2 k2 l0 t501 t504 t507 true x7_2 x8_2 (!t517)) = some r := H
              have A23 := Aside0.mk A230
              clear A230
              have H' := Aside0.mk H
              clear H
              have p511 : 0 ≤ (x8_2 : Int) := od_
              have q511 : x8_2 < (l0.length : Int) := od_
              obtain ⟨ad511, A511_1, c511_1, A511_2, c511_2, e511, hx511_0, hx511_1, hx511_2, hl511_1, hi511_1, hl511_2, hi511_2⟩ := at_T35 HR0.out x8_2 p511 q511
              cases e511
              replace hx511_0 := (HB.out.cell (World.block_lt_of_cell? w _ hx511_0)).trans hx511_0
              replace hx511_1 := (HB.out.cell (World.block_lt_of_cell? w _ hx511_1)).trans hx511_1
              replace hx511_2 := (HB.out.cell (World.block_lt_of_cell? w _ hx511_2)).trans hx511_2
              have HR511_1 := Aside0.mk hi511_1
              have HC511_1 := Aside0.mk hl511_1
              clear hi511_1 hl511_1
              have HR511_2 := Aside0.mk hi511_2
              have HC511_2 := Aside0.mk hl511_2
              clear hi511_2 hl511_2
              replace p511 := eq_true p511
              replace q511 := eq_true q511
              have p512 : 0 ≤ (x8_2 : Int) := od_
              have q512 : x8_2 < (l0.length : Int) := od_
              obtain ⟨ad512, A512_1, c512_1, A512_2, c512_2, e512, hx512_0, hx512_1, hx512_2, hl512_1, hi512_1, hl512_2, hi512_2⟩ := at_T35 HR0.out x8_2 p512 q512
              obtain rfl : ad511 = ad512 := (by injection e512)
              replace hx512_0 := (HB.out.cell (World.block_lt_of_cell? w _ hx512_0)).trans hx512_0
              replace hx512_1 := (HB.out.cell (World.block_lt_of_cell? w _ hx512_1)).trans hx512_1
              replace hx512_2 := (HB.out.cell (World.block_lt_of_cell? w _ hx512_2)).trans hx512_2
              have HR512_1 := Aside0.mk hi512_1
              have HC512_1 := Aside0.mk hl512_1
              clear hi512_1 hl512_1
              have HR512_2 := Aside0.mk hi512_2
              have HC512_2 := Aside0.mk hl512_2
              clear hi512_2 hl512_2
              replace p512 := eq_true p512
              replace q512 := eq_true q512
              have ea_ := Option.some.inj (hx511_1.symm.trans hx512_1)
              injection ea_ with ea_ en_ ec_
              subst ea_
              subst ec_
              clear en_
              have ea_ := Option.some.inj (hx511_2.symm.trans hx512_2)
              injection ea_ with ea_ en_ ec_
              subst ea_
              subst ec_
              clear en_
              have p513 : 0 ≤ (0 : Int) := (by omega)
              have q513 : 0 < (((rd_T35 l0 x8_2).f2).length : Int) := od_
              obtain ⟨ad513, e513, hx513_0⟩ := Kd.at_int HR512_2.out 0 p513 q513
              cases e513
              have qi513 : (0 < ((rd_T35 l0 x8_2).f2).length) = True := eq_true (by omega)
              (try rw [show ((0 : Int)).toNat = 0 from rfl] at hx513_0)
              (try rw [Addr.add_zero'] at hx513_0)
              replace hx513_0 := (HB.out.cell (World.block_lt_of_cell? w _ hx513_0)).trans hx513_0
              replace p513 := eq_true p513
              replace q513 := eq_true q513
              obtain ⟨Ao24, co24, eo24⟩ := Kd.R_slice HO_4.out
              subst eo24
              go_wp2_with (first | (go_at_call 24; (with_reducible refine (fullerref10_In.calls k2 _ _ t504 (rd ((rd_T35 l0 x8_2).f2) 0) true _ ?side1 ?side2 A19.out).mono ?_); (case side1 => exact mvC_ ((Kd.R_reads' HO_4.out).2.2)); (case side2 => exact (Kd.R_reads' HO_4.out).2.1); rintro e w' ⟨rfl, ⟨nd, rfl⟩⟩; have p515 : 0 ≤ (x8_2 : Int) := od_; have q515 : x8_2 < (l0.length : Int) := od_; obtain ⟨ad515, A515_1, c515_1, A515_2, c515_2, e515, hx515_0, hx515_1, hx515_2, hl515_1, hi515_1, hl515_2, hi515_2⟩ := at_T35 HR0.out x8_2 p515 q515; obtain rfl : ad511 = ad515 := (by injection e515); replace hx515_0 := (HB.out.cell (World.block_lt_of_cell? w _ hx515_0)).trans hx515_0; replace hx515_1 := (HB.out.cell (World.block_lt_of_cell? w _ hx515_1)).trans hx515_1; replace hx515_2 := (HB.out.cell (World.block_lt_of_cell? w _ hx515_2)).trans hx515_2; have HR515_1 := Aside0.mk hi515_1; have HC515_1 := Aside0.mk hl515_1; clear hi515_1 hl515_1; have HR515_2 := Aside0.mk hi515_2; have HC515_2 := Aside0.mk hl515_2; clear hi515_2 hl515_2; replace p515 := eq_true p515; replace q515 := eq_true q515; have ea_ := Option.some.inj (hx511_1.symm.trans hx515_1); injection ea_ with ea_ en_ ec_; subst ea_; subst ec_; clear en_; have ea_ := Option.some.inj (hx511_2.symm.trans hx515_2); injection ea_ with ea_ en_ ec_; subst ea_; subst ec_; clear en_; have p516 : 0 ≤ (x8_2 : Int) := od_; have q516 : x8_2 < (l0.length : Int) := od_; obtain ⟨ad516, A516_1, c516_1, A516_2, c516_2, e516, hx516_0, hx516_1, hx516_2, hl516_1, hi516_1, hl516_2, hi516_2⟩ := at_T35 HR0.out x8_2 p516 q516; obtain rfl : ad511 = ad516 := (by injection e516); replace hx516_0 := (HB.out.cell (World.block_lt_of_cell? w _ hx516_0)).trans hx516_0; replace hx516_1 := (HB.out.cell (World.block_lt_of_cell? w _ hx516_1)).trans hx516_1; replace hx516_2 := (HB.out.cell (World.block_lt_of_cell? w _ hx516_2)).trans hx516_2; have HR516_1 := Aside0.mk hi516_1; have HC516_1 := Aside0.mk hl516_1; clear hi516_1 hl516_1; have HR516_2 := Aside0.mk hi516_2; have HC516_2 := Aside0.mk hl516_2; clear hi516_2 hl516_2; replace p516 := eq_true p516; replace q516 := eq_true q516; have ea_ := Option.some.inj (hx511_1.symm.trans hx516_1); injection ea_ with ea_ en_ ec_; subst ea_; subst ec_; clear en_; have ea_ := Option.some.inj (hx511_2.symm.trans hx516_2); injection ea_ with ea_ en_ ec_; subst ea_; subst ec_; clear en_; obtain ⟨Ao25, co25, eo25⟩ := Kd.R_slice HO_5.out; subst eo25) | (go_at_call 17; (with_reducible refine (fullerref02_Same.calls k2 _ _ t507 _ _ ((rd_T35 l0 x8_2).f2) t517 _ ?side1 ?side2 ?side3 ?side4 A23.out).mono ?_); (case side1 => exact mvC_ ((Kd.R_reads' HO_5.out).2.2)); (case side2 => exact (Kd.R_reads' HO_5.out).2.1); (case side3 => repeat (first | exact (Kd.C_below HR516_2.out (bq0_ HB.out)) | (with_reducible refine Kd.C_alloc ?_ _) | (with_reducible refine Kd.C_drewN ?_ _) | (with_reducible refine Kd.C_drew ?_))); (case side4 => exact HC516_2.out); rintro e w' ⟨rfl, ⟨nd, rfl⟩⟩))
              go_meet
              case rel => exact ⟨_, (!t517), (by first | rfl | (simp; done) | (simp [*]; done)), H', ⟨by have := HJ2.out; have := HK2.out; first | omega | exact Nat.le_refl _⟩, ⟨mvR_ HO_4.out⟩, ⟨mvR_ HO_5.out⟩, ⟨bq0_ HB.out⟩⟩
             ·replace c22 := Bool.eq_false_iff.mpr c22
              subst c22
              have H1 : (fullerlaw10_GraphNames.j2 k2 l0 t501 t504 t507 false x7_2 x8_2 true) = some r := by rw [if_neg (show ¬ (false = true) by decide)] at H; exact H
              clear H
              have H := H1
              clear H1
              have H' := Aside0.mk H
              clear H
              have p511 : 0 ≤ (x8_2 : Int) := od_
              have q511 : x8_2 < (l0.length : Int) := od_
              obtain ⟨ad511, A511_1, c511_1, A511_2, c511_2, e511, hx511_0, hx511_1, hx511_2, hl511_1, hi511_1, hl511_2, hi511_2⟩ := at_T35 HR0.out x8_2 p511 q511
              cases e511
              replace hx511_0 := (HB.out.cell (World.block_lt_of_cell? w _ hx511_0)).trans hx511_0
              replace hx511_1 := (HB.out.cell (World.block_lt_of_cell? w _ hx511_1)).trans hx511_1
              replace hx511_2 := (HB.out.cell (World.block_lt_of_cell? w _ hx511_2)).trans hx511_2
              have HR511_1 := Aside0.mk hi511_1
              have HC511_1 := Aside0.mk hl511_1
              clear hi511_1 hl511_1
              have HR511_2 := Aside0.mk hi511_2
              have HC511_2 := Aside0.mk hl511_2
              clear hi511_2 hl511_2
              replace p511 := eq_true p511
              replace q511 := eq_true q511
              have p512 : 0 ≤ (x8_2 : Int) := od_
              have q512 : x8_2 < (l0.length : Int) := od_
              obtain ⟨ad512, A512_1, c512_1, A512_2, c512_2, e512, hx512_0, hx512_1, hx512_2, hl512_1, hi512_1, hl512_2, hi512_2⟩ := at_T35 HR0.out x8_2 p512 q512
              obtain rfl : ad511 = ad512 := (by injection e512)
              replace hx512_0 := (HB.out.cell (World.block_lt_of_cell? w _ hx512_0)).trans hx512_0
              replace hx512_1 := (HB.out.cell (World.block_lt_of_cell? w _ hx512_1)).trans hx512_1
              replace hx512_2 := (HB.out.cell (World.block_lt_of_cell? w _ hx512_2)).trans hx512_2
              have HR512_1 := Aside0.mk hi512_1
              have HC512_1 := Aside0.mk hl512_1
              clear hi512_1 hl512_1
              have HR512_2 := Aside0.mk hi512_2
              have HC512_2 := Aside0.mk hl512_2
              clear hi512_2 hl512_2
              replace p512 := eq_true p512
              replace q512 := eq_true q512
              have ea_ := Option.some.inj (hx511_1.symm.trans hx512_1)
              injection ea_ with ea_ en_ ec_
              subst ea_
              subst ec_
              clear en_
              have ea_ := Option.some.inj (hx511_2.symm.trans hx512_2)
              injection ea_ with ea_ en_ ec_
              subst ea_
              subst ec_
              clear en_
              have p513 : 0 ≤ (0 : Int) := (by omega)
              have q513 : 0 < (((rd_T35 l0 x8_2).f2).length : Int) := od_
              obtain ⟨ad513, e513, hx513_0⟩ := Kd.at_int HR512_2.out 0 p513 q513
              cases e513
              have qi513 : (0 < ((rd_T35 l0 x8_2).f2).length) = True := eq_true (by omega)
              (try rw [show ((0 : Int)).toNat = 0 from rfl] at hx513_0)
              (try rw [Addr.add_zero'] at hx513_0)
              replace hx513_0 := (HB.out.cell (World.block_lt_of_cell? w _ hx513_0)).trans hx513_0
              replace p513 := eq_true p513
              replace q513 := eq_true q513
              obtain ⟨Ao26, co26, eo26⟩ := Kd.R_slice HO_4.out
              subst eo26
              go_wp2_with (first | (go_at_call 24; (with_reducible refine (fullerref10_In.calls k2 _ _ t504 (rd ((rd_T35 l0 x8_2).f2) 0) true _ ?side1 ?side2 A19.out).mono ?_); (case side1 => exact mvC_ ((Kd.R_reads' HO_4.out).2.2)); (case side2 => exact (Kd.R_reads' HO_4.out).2.1); rintro e w' ⟨rfl, ⟨nd, rfl⟩⟩; have p515 : 0 ≤ (x8_2 : Int) := od_; have q515 : x8_2 < (l0.length : Int) := od_; obtain ⟨ad515, A515_1, c515_1, A515_2, c515_2, e515, hx515_0, hx515_1, hx515_2, hl515_1, hi515_1, hl515_2, hi515_2⟩ := at_T35 HR0.out x8_2 p515 q515; obtain rfl : ad511 = ad515 := (by injection e515); replace hx515_0 := (HB.out.cell (World.block_lt_of_cell? w _ hx515_0)).trans hx515_0; replace hx515_1 := (HB.out.cell (World.block_lt_of_cell? w _ hx515_1)).trans hx515_1; replace hx515_2 := (HB.out.cell (World.block_lt_of_cell? w _ hx515_2)).trans hx515_2; have HR515_1 := Aside0.mk hi515_1; have HC515_1 := Aside0.mk hl515_1; clear hi515_1 hl515_1; have HR515_2 := Aside0.mk hi515_2; have HC515_2 := Aside0.mk hl515_2; clear hi515_2 hl515_2; replace p515 := eq_true p515; replace q515 := eq_true q515; have ea_ := Option.some.inj (hx511_1.symm.trans hx515_1); injection ea_ with ea_ en_ ec_; subst ea_; subst ec_; clear en_; have ea_ := Option.some.inj (hx511_2.symm.trans hx515_2); injection ea_ with ea_ en_ ec_; subst ea_; subst ec_; clear en_))
              go_meet
              case rel => exact ⟨_, (true), (by first | rfl | (simp; done) | (simp [*]; done)), H', ⟨by have := HJ2.out; have := HK2.out; first | omega | exact Nat.le_refl _⟩, ⟨mvR_ HO_4.out⟩, ⟨mvR_ HO_5.out⟩, ⟨bq0_ HB.out⟩⟩
            ·rw [if_neg c21] at H
             have c21b0 : (((rd_T35 l0 x8_2).f0) == 1) = false := beq_eq_false_iff_ne.mpr c21
             have c21b1 : (((rd_T35 l0 x8_2).f0) != 1) = true := bne_iff_ne.mpr c21
             have H' := Aside0.mk H
             clear H
             have p511 : 0 ≤ (x8_2 : Int) := od_
             have q511 : x8_2 < (l0.length : Int) := od_
             obtain ⟨ad511, A511_1, c511_1, A511_2, c511_2, e511, hx511_0, hx511_1, hx511_2, hl511_1, hi511_1, hl511_2, hi511_2⟩ := at_T35 HR0.out x8_2 p511 q511
             cases e511
             replace hx511_0 := (HB.out.cell (World.block_lt_of_cell? w _ hx511_0)).trans hx511_0
             replace hx511_1 := (HB.out.cell (World.block_lt_of_cell? w _ hx511_1)).trans hx511_1
             replace hx511_2 := (HB.out.cell (World.block_lt_of_cell? w _ hx511_2)).trans hx511_2
             have HR511_1 := Aside0.mk hi511_1
             have HC511_1 := Aside0.mk hl511_1
             clear hi511_1 hl511_1
             have HR511_2 := Aside0.mk hi511_2
             have HC511_2 := Aside0.mk hl511_2
             clear hi511_2 hl511_2
             replace p511 := eq_true p511
             replace q511 := eq_true q511
             have p512 : 0 ≤ (x8_2 : Int) := od_
             have q512 : x8_2 < (l0.length : Int) := od_
             obtain ⟨ad512, A512_1, c512_1, A512_2, c512_2, e512, hx512_0, hx512_1, hx512_2, hl512_1, hi512_1, hl512_2, hi512_2⟩ := at_T35 HR0.out x8_2 p512 q512
             obtain rfl : ad511 = ad512 := (by injection e512)
             replace hx512_0 := (HB.out.cell (World.block_lt_of_cell? w _ hx512_0)).trans hx512_0
             replace hx512_1 := (HB.out.cell (World.block_lt_of_cell? w _ hx512_1)).trans hx512_1
             replace hx512_2 := (HB.out.cell (World.block_lt_of_cell? w _ hx512_2)).trans hx512_2
             have HR512_1 := Aside0.mk hi512_1
             have HC512_1 := Aside0.mk hl512_1
             clear hi512_1 hl512_1
             have HR512_2 := Aside0.mk hi512_2
             have HC512_2 := Aside0.mk hl512_2
             clear hi512_2 hl512_2
             replace p512 := eq_true p512
             replace q512 := eq_true q512
             have ea_ := Option.some.inj (hx511_1.symm.trans hx512_1)
             injection ea_ with ea_ en_ ec_
             subst ea_
             subst ec_
             clear en_
             have ea_ := Option.some.inj (hx511_2.symm.trans hx512_2)
             injection ea_ with ea_ en_ ec_
             subst ea_
             subst ec_
             clear en_
             have p513 : 0 ≤ (0 : Int) := (by omega)
             have q513 : 0 < (((rd_T35 l0 x8_2).f2).length : Int) := od_
             obtain ⟨ad513, e513, hx513_0⟩ := Kd.at_int HR512_2.out 0 p513 q513
             cases e513
             have qi513 : (0 < ((rd_T35 l0 x8_2).f2).length) = True := eq_true (by omega)
             (try rw [show ((0 : Int)).toNat = 0 from rfl] at hx513_0)
             (try rw [Addr.add_zero'] at hx513_0)
             replace hx513_0 := (HB.out.cell (World.block_lt_of_cell? w _ hx513_0)).trans hx513_0
             replace p513 := eq_true p513
             replace q513 := eq_true q513
             obtain ⟨Ao27, co27, eo27⟩ := Kd.R_slice HO_4.out
             subst eo27
             go_wp2_with (first | (go_at_call 24; (with_reducible refine (fullerref10_In.calls k2 _ _ t504 (rd ((rd_T35 l0 x8_2).f2) 0) true _ ?side1 ?side2 A19.out).mono ?_); (case side1 => exact mvC_ ((Kd.R_reads' HO_4.out).2.2)); (case side2 => exact (Kd.R_reads' HO_4.out).2.1); rintro e w' ⟨rfl, ⟨nd, rfl⟩⟩; have p515 : 0 ≤ (x8_2 : Int) := od_; have q515 : x8_2 < (l0.length : Int) := od_; obtain ⟨ad515, A515_1, c515_1, A515_2, c515_2, e515, hx515_0, hx515_1, hx515_2, hl515_1, hi515_1, hl515_2, hi515_2⟩ := at_T35 HR0.out x8_2 p515 q515; obtain rfl : ad511 = ad515 := (by injection e515); replace hx515_0 := (HB.out.cell (World.block_lt_of_cell? w _ hx515_0)).trans hx515_0; replace hx515_1 := (HB.out.cell (World.block_lt_of_cell? w _ hx515_1)).trans hx515_1; replace hx515_2 := (HB.out.cell (World.block_lt_of_cell? w _ hx515_2)).trans hx515_2; have HR515_1 := Aside0.mk hi515_1; have HC515_1 := Aside0.mk hl515_1; clear hi515_1 hl515_1; have HR515_2 := Aside0.mk hi515_2; have HC515_2 := Aside0.mk hl515_2; clear hi515_2 hl515_2; replace p515 := eq_true p515; replace q515 := eq_true q515; have ea_ := Option.some.inj (hx511_1.symm.trans hx515_1); injection ea_ with ea_ en_ ec_; subst ea_; subst ec_; clear en_; have ea_ := Option.some.inj (hx511_2.symm.trans hx515_2); injection ea_ with ea_ en_ ec_; subst ea_; subst ec_; clear en_))
             go_meet
             case rel => exact ⟨_, (false), (by first | rfl | (simp; done) | (simp [*]; done)), H', ⟨by have := HJ2.out; have := HK2.out; first | omega | exact Nat.le_refl _⟩, ⟨mvR_ HO_4.out⟩, ⟨mvR_ HO_5.out⟩, ⟨bq0_ HB.out⟩⟩
           ·replace c20 := Bool.eq_false_iff.mpr c20
            subst c20
            have H1 : (fullerlaw10_GraphNames.j2 k2 l0 t501 t504 t507 t508 x7_2 x8_2 true) = some r := by rw [if_neg (show ¬ (false = true) by decide)] at H; exact H
            clear H
            have H := H1
            clear H1
            have H' := Aside0.mk H
            clear H
            have p511 : 0 ≤ (x8_2 : Int) := od_
            have q511 : x8_2 < (l0.length : Int) := od_
            obtain ⟨ad511, A511_1, c511_1, A511_2, c511_2, e511, hx511_0, hx511_1, hx511_2, hl511_1, hi511_1, hl511_2, hi511_2⟩ := at_T35 HR0.out x8_2 p511 q511
            cases e511
            replace hx511_0 := (HB.out.cell (World.block_lt_of_cell? w _ hx511_0)).trans hx511_0
            replace hx511_1 := (HB.out.cell (World.block_lt_of_cell? w _ hx511_1)).trans hx511_1
            replace hx511_2 := (HB.out.cell (World.block_lt_of_cell? w _ hx511_2)).trans hx511_2
            have HR511_1 := Aside0.mk hi511_1
            have HC511_1 := Aside0.mk hl511_1
            clear hi511_1 hl511_1
            have HR511_2 := Aside0.mk hi511_2
            have HC511_2 := Aside0.mk hl511_2
            clear hi511_2 hl511_2
            replace p511 := eq_true p511
            replace q511 := eq_true q511
            have p512 : 0 ≤ (x8_2 : Int) := od_
            have q512 : x8_2 < (l0.length : Int) := od_
            obtain ⟨ad512, A512_1, c512_1, A512_2, c512_2, e512, hx512_0, hx512_1, hx512_2, hl512_1, hi512_1, hl512_2, hi512_2⟩ := at_T35 HR0.out x8_2 p512 q512
            obtain rfl : ad511 = ad512 := (by injection e512)
            replace hx512_0 := (HB.out.cell (World.block_lt_of_cell? w _ hx512_0)).trans hx512_0
            replace hx512_1 := (HB.out.cell (World.block_lt_of_cell? w _ hx512_1)).trans hx512_1
            replace hx512_2 := (HB.out.cell (World.block_lt_of_cell? w _ hx512_2)).trans hx512_2
            have HR512_1 := Aside0.mk hi512_1
            have HC512_1 := Aside0.mk hl512_1
            clear hi512_1 hl512_1
            have HR512_2 := Aside0.mk hi512_2
            have HC512_2 := Aside0.mk hl512_2
            clear hi512_2 hl512_2
            replace p512 := eq_true p512
            replace q512 := eq_true q512
            have ea_ := Option.some.inj (hx511_1.symm.trans hx512_1)
            injection ea_ with ea_ en_ ec_
            subst ea_
            subst ec_
            clear en_
            have ea_ := Option.some.inj (hx511_2.symm.trans hx512_2)
            injection ea_ with ea_ en_ ec_
            subst ea_
            subst ec_
            clear en_
            have p513 : 0 ≤ (0 : Int) := (by omega)
            have q513 : 0 < (((rd_T35 l0 x8_2).f2).length : Int) := od_
            obtain ⟨ad513, e513, hx513_0⟩ := Kd.at_int HR512_2.out 0 p513 q513
            cases e513
            have qi513 : (0 < ((rd_T35 l0 x8_2).f2).length) = True := eq_true (by omega)
            (try rw [show ((0 : Int)).toNat = 0 from rfl] at hx513_0)
            (try rw [Addr.add_zero'] at hx513_0)
            replace hx513_0 := (HB.out.cell (World.block_lt_of_cell? w _ hx513_0)).trans hx513_0
            replace p513 := eq_true p513
            replace q513 := eq_true q513
            obtain ⟨Ao28, co28, eo28⟩ := Kd.R_slice HO_4.out
            subst eo28
            go_wp2_with (first | (go_at_call 24; (with_reducible refine (fullerref10_In.calls k2 _ _ t504 (rd ((rd_T35 l0 x8_2).f2) 0) false _ ?side1 ?side2 A19.out).mono ?_); (case side1 => exact mvC_ ((Kd.R_reads' HO_4.out).2.2)); (case side2 => exact (Kd.R_reads' HO_4.out).2.1); rintro e w' ⟨rfl, ⟨nd, rfl⟩⟩))
            go_meet
            case rel => exact ⟨_, (true), (by first | rfl | (simp; done) | (simp [*]; done)), H', ⟨by have := HJ2.out; have := HK2.out; first | omega | exact Nat.le_refl _⟩, ⟨mvR_ HO_4.out⟩, ⟨mvR_ HO_5.out⟩, ⟨bq0_ HB.out⟩⟩
          ·rw [if_neg c18] at H
           exact absurd H (by simp)
         ·rw [if_neg c17] at H
          have c17b0 : (((rd_T35 l0 x8_2).f0) == 2) = false := beq_eq_false_iff_ne.mpr c17
          have c17b1 : (((rd_T35 l0 x8_2).f0) != 2) = true := bne_iff_ne.mpr c17
          by_cases c29 : ((rd_T35 l0 x8_2).f0) = 1
          ·rw [if_pos c29] at H
           obtain ⟨c29b0, c29b1⟩ := eqT_ c29
           clear c29
           by_cases c30 : t508 = true
           ·subst c30
            have H1 : ((fullerref02_Same.f k2 t507 ((rd_T35 l0 x8_2).f2)).bind fun t520 => (fullerlaw10_GraphNames.j2 k2 l0 t501 t504 t507 true x7_2 x8_2 (!t520))) = some r := by rw [if_pos rfl] at H; exact H
            clear H
            have H := H1
            clear H1
            replace H := Option.bind_eq_some_iff.mp H
            obtain ⟨t520, A310, H⟩ := H
            replace H : (fullerlaw10_GraphNames.j2 k2 l0 t501 t504 t507 true x7_2 x8_2 (!t520)) = some r := H
            have A31 := Aside0.mk A310
            clear A310
            have H' := Aside0.mk H
            clear H
            have p511 : 0 ≤ (x8_2 : Int) := od_
            have q511 : x8_2 < (l0.length : Int) := od_
            obtain ⟨ad511, A511_1, c511_1, A511_2, c511_2, e511, hx511_0, hx511_1, hx511_2, hl511_1, hi511_1, hl511_2, hi511_2⟩ := at_T35 HR0.out x8_2 p511 q511
            cases e511
            replace hx511_0 := (HB.out.cell (World.block_lt_of_cell? w _ hx511_0)).trans hx511_0
            replace hx511_1 := (HB.out.cell (World.block_lt_of_cell? w _ hx511_1)).trans hx511_1
            replace hx511_2 := (HB.out.cell (World.block_lt_of_cell? w _ hx511_2)).trans hx511_2
            have HR511_1 := Aside0.mk hi511_1
            have HC511_1 := Aside0.mk hl511_1
            clear hi511_1 hl511_1
            have HR511_2 := Aside0.mk hi511_2
            have HC511_2 := Aside0.mk hl511_2
            clear hi511_2 hl511_2
            replace p511 := eq_true p511
            replace q511 := eq_true q511
            have p518 : 0 ≤ (x8_2 : Int) := od_
            have q518 : x8_2 < (l0.length : Int) := od_
            obtain ⟨ad518, A518_1, c518_1, A518_2, c518_2, e518, hx518_0, hx518_1, hx518_2, hl518_1, hi518_1, hl518_2, hi518_2⟩ := at_T35 HR0.out x8_2 p518 q518
            obtain rfl : ad511 = ad518 := (by injection e518)
            replace hx518_0 := (HB.out.cell (World.block_lt_of_cell? w _ hx518_0)).trans hx518_0
            replace hx518_1 := (HB.out.cell (World.block_lt_of_cell? w _ hx518_1)).trans hx518_1
            replace hx518_2 := (HB.out.cell (World.block_lt_of_cell? w _ hx518_2)).trans hx518_2
            have HR518_1 := Aside0.mk hi518_1
            have HC518_1 := Aside0.mk hl518_1
            clear hi518_1 hl518_1
            have HR518_2 := Aside0.mk hi518_2
            have HC518_2 := Aside0.mk hl518_2
            clear hi518_2 hl518_2
            replace p518 := eq_true p518
            replace q518 := eq_true q518
            have ea_ := Option.some.inj (hx511_1.symm.trans hx518_1)
            injection ea_ with ea_ en_ ec_
            subst ea_
            subst ec_
            clear en_
            have ea_ := Option.some.inj (hx511_2.symm.trans hx518_2)
            injection ea_ with ea_ en_ ec_
            subst ea_
            subst ec_
            clear en_
            have p519 : 0 ≤ (x8_2 : Int) := od_
            have q519 : x8_2 < (l0.length : Int) := od_
            obtain ⟨ad519, A519_1, c519_1, A519_2, c519_2, e519, hx519_0, hx519_1, hx519_2, hl519_1, hi519_1, hl519_2, hi519_2⟩ := at_T35 HR0.out x8_2 p519 q519
            obtain rfl : ad511 = ad519 := (by injection e519)
            replace hx519_0 := (HB.out.cell (World.block_lt_of_cell? w _ hx519_0)).trans hx519_0
            replace hx519_1 := (HB.out.cell (World.block_lt_of_cell? w _ hx519_1)).trans hx519_1
            replace hx519_2 := (HB.out.cell (World.block_lt_of_cell? w _ hx519_2)).trans hx519_2
            have HR519_1 := Aside0.mk hi519_1
            have HC519_1 := Aside0.mk hl519_1
            clear hi519_1 hl519_1
            have HR519_2 := Aside0.mk hi519_2
            have HC519_2 := Aside0.mk hl519_2
            clear hi519_2 hl519_2
            replace p519 := eq_true p519
            replace q519 := eq_true q519
            have ea_ := Option.some.inj (hx511_1.symm.trans hx519_1)
            injection ea_ with ea_ en_ ec_
            subst ea_
            subst ec_
            clear en_
            have ea_ := Option.some.inj (hx511_2.symm.trans hx519_2)
            injection ea_ with ea_ en_ ec_
            subst ea_
            subst ec_
            clear en_
            obtain ⟨Ao32, co32, eo32⟩ := Kd.R_slice HO_5.out
            subst eo32
            go_wp2_with (first | (go_at_call 17; (with_reducible refine (fullerref02_Same.calls k2 _ _ t507 _ _ ((rd_T35 l0 x8_2).f2) t520 _ ?side1 ?side2 ?side3 ?side4 A31.out).mono ?_); (case side1 => exact mvC_ ((Kd.R_reads' HO_5.out).2.2)); (case side2 => exact (Kd.R_reads' HO_5.out).2.1); (case side3 => exact mvC_ ((Kd.C_below HR519_2.out HB.out))); (case side4 => exact HC519_2.out); rintro e w' ⟨rfl, ⟨nd, rfl⟩⟩))
            go_meet
            case rel => exact ⟨_, (!t520), (by first | rfl | (simp; done) | (simp [*]; done)), H', ⟨by have := HJ2.out; have := HK2.out; first | omega | exact Nat.le_refl _⟩, ⟨mvR_ HO_4.out⟩, ⟨mvR_ HO_5.out⟩, ⟨bq0_ HB.out⟩⟩
           ·replace c30 := Bool.eq_false_iff.mpr c30
            subst c30
            have H1 : (fullerlaw10_GraphNames.j2 k2 l0 t501 t504 t507 false x7_2 x8_2 true) = some r := by rw [if_neg (show ¬ (false = true) by decide)] at H; exact H
            clear H
            have H := H1
            clear H1
            have H' := Aside0.mk H
            clear H
            have p511 : 0 ≤ (x8_2 : Int) := od_
            have q511 : x8_2 < (l0.length : Int) := od_
            obtain ⟨ad511, A511_1, c511_1, A511_2, c511_2, e511, hx511_0, hx511_1, hx511_2, hl511_1, hi511_1, hl511_2, hi511_2⟩ := at_T35 HR0.out x8_2 p511 q511
            cases e511
            replace hx511_0 := (HB.out.cell (World.block_lt_of_cell? w _ hx511_0)).trans hx511_0
            replace hx511_1 := (HB.out.cell (World.block_lt_of_cell? w _ hx511_1)).trans hx511_1
            replace hx511_2 := (HB.out.cell (World.block_lt_of_cell? w _ hx511_2)).trans hx511_2
            have HR511_1 := Aside0.mk hi511_1
            have HC511_1 := Aside0.mk hl511_1
            clear hi511_1 hl511_1
            have HR511_2 := Aside0.mk hi511_2
            have HC511_2 := Aside0.mk hl511_2
            clear hi511_2 hl511_2
            replace p511 := eq_true p511
            replace q511 := eq_true q511
            have p518 : 0 ≤ (x8_2 : Int) := od_
            have q518 : x8_2 < (l0.length : Int) := od_
            obtain ⟨ad518, A518_1, c518_1, A518_2, c518_2, e518, hx518_0, hx518_1, hx518_2, hl518_1, hi518_1, hl518_2, hi518_2⟩ := at_T35 HR0.out x8_2 p518 q518
            obtain rfl : ad511 = ad518 := (by injection e518)
            replace hx518_0 := (HB.out.cell (World.block_lt_of_cell? w _ hx518_0)).trans hx518_0
            replace hx518_1 := (HB.out.cell (World.block_lt_of_cell? w _ hx518_1)).trans hx518_1
            replace hx518_2 := (HB.out.cell (World.block_lt_of_cell? w _ hx518_2)).trans hx518_2
            have HR518_1 := Aside0.mk hi518_1
            have HC518_1 := Aside0.mk hl518_1
            clear hi518_1 hl518_1
            have HR518_2 := Aside0.mk hi518_2
            have HC518_2 := Aside0.mk hl518_2
            clear hi518_2 hl518_2
            replace p518 := eq_true p518
            replace q518 := eq_true q518
            have ea_ := Option.some.inj (hx511_1.symm.trans hx518_1)
            injection ea_ with ea_ en_ ec_
            subst ea_
            subst ec_
            clear en_
            have ea_ := Option.some.inj (hx511_2.symm.trans hx518_2)
            injection ea_ with ea_ en_ ec_
            subst ea_
            subst ec_
            clear en_
            go_wp2
            go_meet
            case rel => exact ⟨_, (true), (by first | rfl | (simp; done) | (simp [*]; done)), H', ⟨by have := HJ2.out; have := HK2.out; first | omega | exact Nat.le_refl _⟩, ⟨mvR_ HO_4.out⟩, ⟨mvR_ HO_5.out⟩, ⟨bq0_ HB.out⟩⟩
          ·rw [if_neg c29] at H
           have c29b0 : (((rd_T35 l0 x8_2).f0) == 1) = false := beq_eq_false_iff_ne.mpr c29
           have c29b1 : (((rd_T35 l0 x8_2).f0) != 1) = true := bne_iff_ne.mpr c29
           have H' := Aside0.mk H
           clear H
           have p511 : 0 ≤ (x8_2 : Int) := od_
           have q511 : x8_2 < (l0.length : Int) := od_
           obtain ⟨ad511, A511_1, c511_1, A511_2, c511_2, e511, hx511_0, hx511_1, hx511_2, hl511_1, hi511_1, hl511_2, hi511_2⟩ := at_T35 HR0.out x8_2 p511 q511
           cases e511
           replace hx511_0 := (HB.out.cell (World.block_lt_of_cell? w _ hx511_0)).trans hx511_0
           replace hx511_1 := (HB.out.cell (World.block_lt_of_cell? w _ hx511_1)).trans hx511_1
           replace hx511_2 := (HB.out.cell (World.block_lt_of_cell? w _ hx511_2)).trans hx511_2
           have HR511_1 := Aside0.mk hi511_1
           have HC511_1 := Aside0.mk hl511_1
           clear hi511_1 hl511_1
           have HR511_2 := Aside0.mk hi511_2
           have HC511_2 := Aside0.mk hl511_2
           clear hi511_2 hl511_2
           replace p511 := eq_true p511
           replace q511 := eq_true q511
           have p518 : 0 ≤ (x8_2 : Int) := od_
           have q518 : x8_2 < (l0.length : Int) := od_
           obtain ⟨ad518, A518_1, c518_1, A518_2, c518_2, e518, hx518_0, hx518_1, hx518_2, hl518_1, hi518_1, hl518_2, hi518_2⟩ := at_T35 HR0.out x8_2 p518 q518
           obtain rfl : ad511 = ad518 := (by injection e518)
           replace hx518_0 := (HB.out.cell (World.block_lt_of_cell? w _ hx518_0)).trans hx518_0
           replace hx518_1 := (HB.out.cell (World.block_lt_of_cell? w _ hx518_1)).trans hx518_1
           replace hx518_2 := (HB.out.cell (World.block_lt_of_cell? w _ hx518_2)).trans hx518_2
           have HR518_1 := Aside0.mk hi518_1
           have HC518_1 := Aside0.mk hl518_1
           clear hi518_1 hl518_1
           have HR518_2 := Aside0.mk hi518_2
           have HC518_2 := Aside0.mk hl518_2
           clear hi518_2 hl518_2
           replace p518 := eq_true p518
           replace q518 := eq_true q518
           have ea_ := Option.some.inj (hx511_1.symm.trans hx518_1)
           injection ea_ with ea_ en_ ec_
           subst ea_
           subst ec_
           clear en_
           have ea_ := Option.some.inj (hx511_2.symm.trans hx518_2)
           injection ea_ with ea_ en_ ec_
           subst ea_
           subst ec_
           clear en_
           go_wp2
           go_meet
           case rel => exact ⟨_, (false), (by first | rfl | (simp; done) | (simp [*]; done)), H', ⟨by have := HJ2.out; have := HK2.out; first | omega | exact Nat.le_refl _⟩, ⟨mvR_ HO_4.out⟩, ⟨mvR_ HO_5.out⟩, ⟨bq0_ HB.out⟩⟩
        ·rw [if_neg c16] at H
         exact absurd H (by simp)
       case rest =>
        clear HC15
        try clear c1
        try clear c2
        try clear p2
        try clear c3
        try clear c5
        try clear p5
        try clear q5
        try clear hx5
        try clear qi5
        try clear c6
        try clear c9
        try clear c10
        try clear c11
        try clear c14
        try clear c14b0
        try clear c16
        try clear c16b0
        try clear c17
        try clear c17b0
        try clear c17b1
        try clear c18
        try clear c18b0
        try clear c18b1
        try clear c20
        try clear c21
        try clear c21b0
        try clear c21b1
        try clear c22
        try clear c29
        try clear c29b0
        try clear c29b1
        try clear c30
        try clear hx511_0
        try clear hx511_1
        try clear hx511_2
        try clear hx512_0
        try clear hx512_1
        try clear hx512_2
        try clear hx513_0
        try clear hx515_0
        try clear hx515_1
        try clear hx515_2
        try clear hx516_0
        try clear hx516_1
        try clear hx516_2
        try clear hx518_0
        try clear hx518_1
        try clear hx518_2
        try clear hx519_0
        try clear hx519_1
        try clear hx519_2
        try clear p2
        try clear p511
        try clear p512
        try clear p513
        try clear p515
        try clear p516
        try clear p518
        try clear p519
        try clear q511
        try clear q512
        try clear q513
        try clear q515
        try clear q516
        try clear q518
        try clear q519
        obtain ⟨kq, x74_14, rfl, HA, HJ14, HO_4, HO_5, HB⟩ := hcut
        cases kq with
        | zero => exact absurd HA.out (by simp [fullerlaw10_GraphNames.j2])
        | succ kj14 =>
         have H := HA.out
         clear HA
         simp only [fullerlaw10_GraphNames.j2] at H
         by_cases c33 : x74_14 = true
         ·subst c33
          have H1 : (some false) = some r := by rw [if_pos rfl] at H; exact H
          clear H
          have H := H1
          clear H1
          obtain rfl := Option.some.inj H
          go_wp2
          go_ret
          exact ⟨by first | rfl | (simp <;> rfl) | (simp [*] <;> rfl), bq0_ HB.out⟩
         ·replace c33 := Bool.eq_false_iff.mpr c33
          subst c33
          have H1 : (if 0 ≤ x8_2 then (if x8_2 < (l0.length : Int) then (if ((rd_T35 l0 x8_2).f0) = 1 then ((graph_Arity.f ((rd_T35 l0 x8_2).f0)).bind fun t523 => (if t523 = (((rd_T35 l0 x8_2).f1).length : Int) then (fullerlaw10_GraphNames.l0 kj14 l0 t501 t504 t507 t508 (wrap64 (x7_2 + 1)) (wrap64 (x8_2 + 1))) else (some false))) else ((graph_Arity.f ((rd_T35 l0 x8_2).f0)).bind fun t526 => (if t526 = (((rd_T35 l0 x8_2).f1).length : Int) then (fullerlaw10_GraphNames.l0 kj14 l0 t501 t504 t507 t508 x7_2 (wrap64 (x8_2 + 1))) else (some false)))) else (none)) else (none)) = some r := by rw [if_neg (show ¬ (false = true) by decide)] at H; exact H
          clear H
          have H := H1
          clear H1
          by_cases c34 : 0 ≤ x8_2
          ·rw [if_pos c34] at H
           have c34b0 : decide (0 ≤ x8_2) = true := decide_eq_true c34
           clear c34
           by_cases c35 : x8_2 < (l0.length : Int)
           ·rw [if_pos c35] at H
            have c35b0 : decide (x8_2 < (l0.length : Int)) = true := decide_eq_true c35
            clear c35
            by_cases c36 : ((rd_T35 l0 x8_2).f0) = 1
            ·rw [if_pos c36] at H
             obtain ⟨c36b0, c36b1⟩ := eqT_ c36
             clear c36
             replace H := Option.bind_eq_some_iff.mp H
             obtain ⟨t523, A370, H⟩ := H
             replace H : (if t523 = (((rd_T35 l0 x8_2).f1).length : Int) then (fullerlaw10_GraphNames.l0 kj14 l0 t501 t504 t507 t508 (wrap64 (x7_2 + 1)) (wrap64 (x8_2 + 1))) else (some false)) = some r := H
             have A37 := Aside0.mk A370
             clear A370
             by_cases c38 : t523 = (((rd_T35 l0 x8_2).f1).length : Int)
             ·rw [if_pos c38] at H
              obtain ⟨c38b0, c38b1⟩ := eqT_ c38
              clear c38
              have H' := Aside0.mk H
              clear H
              have p521 : 0 ≤ (x8_2 : Int) := od_
              have q521 : x8_2 < (l0.length : Int) := od_
              obtain ⟨ad521, A521_1, c521_1, A521_2, c521_2, e521, hx521_0, hx521_1, hx521_2, hl521_1, hi521_1, hl521_2, hi521_2⟩ := at_T35 HR0.out x8_2 p521 q521
              cases e521
              replace hx521_0 := (HB.out.cell (World.block_lt_of_cell? w _ hx521_0)).trans hx521_0
              replace hx521_1 := (HB.out.cell (World.block_lt_of_cell? w _ hx521_1)).trans hx521_1
              replace hx521_2 := (HB.out.cell (World.block_lt_of_cell? w _ hx521_2)).trans hx521_2
              have HR521_1 := Aside0.mk hi521_1
              have HC521_1 := Aside0.mk hl521_1
              clear hi521_1 hl521_1
              have HR521_2 := Aside0.mk hi521_2
              have HC521_2 := Aside0.mk hl521_2
              clear hi521_2 hl521_2
              replace p521 := eq_true p521
              replace q521 := eq_true q521
              try go_wp2
              replace HO_4 := Aside0.mk (Kd.R_drew HO_4.out)
              replace HO_5 := Aside0.mk (Kd.R_drew HO_5.out)
              replace HB := Aside0.mk (below_drew1 HB.out)
              have p522 : 0 ≤ (x8_2 : Int) := od_
              have q522 : x8_2 < (l0.length : Int) := od_
              obtain ⟨ad522, A522_1, c522_1, A522_2, c522_2, e522, hx522_0, hx522_1, hx522_2, hl522_1, hi522_1, hl522_2, hi522_2⟩ := at_T35 HR0.out x8_2 p522 q522
              have hw522_2 := hx522_2
              have hw522_1 := hx522_1
              have hw522_0 := hx522_0
              obtain rfl : ad521 = ad522 := (by injection e522)
              replace hx522_0 := (HB.out.cell (World.block_lt_of_cell? w _ hx522_0)).trans hx522_0
              replace hx522_1 := (HB.out.cell (World.block_lt_of_cell? w _ hx522_1)).trans hx522_1
              replace hx522_2 := (HB.out.cell (World.block_lt_of_cell? w _ hx522_2)).trans hx522_2
              have HR522_1 := Aside0.mk hi522_1
              have HC522_1 := Aside0.mk hl522_1
              clear hi522_1 hl522_1
              have HR522_2 := Aside0.mk hi522_2
              have HC522_2 := Aside0.mk hl522_2
              clear hi522_2 hl522_2
              replace p522 := eq_true p522
              replace q522 := eq_true q522
              have p524 : 0 ≤ (x8_2 : Int) := od_
              have q524 : x8_2 < (l0.length : Int) := od_
              obtain ⟨ad524, A524_1, c524_1, A524_2, c524_2, e524, hx524_0, hx524_1, hx524_2, hl524_1, hi524_1, hl524_2, hi524_2⟩ := at_T35 HR0.out x8_2 p524 q524
              have hw524_2 := hx524_2
              have hw524_1 := hx524_1
              have hw524_0 := hx524_0
              obtain rfl : ad521 = ad524 := (by injection e524)
              replace hx524_0 := (HB.out.cell (World.block_lt_of_cell? w _ hx524_0)).trans hx524_0
              replace hx524_1 := (HB.out.cell (World.block_lt_of_cell? w _ hx524_1)).trans hx524_1
              replace hx524_2 := (HB.out.cell (World.block_lt_of_cell? w _ hx524_2)).trans hx524_2
              have HR524_1 := Aside0.mk hi524_1
              have HC524_1 := Aside0.mk hl524_1
              clear hi524_1 hl524_1
              have HR524_2 := Aside0.mk hi524_2
              have HC524_2 := Aside0.mk hl524_2
              clear hi524_2 hl524_2
              replace p524 := eq_true p524
              replace q524 := eq_true q524
              have ea_ := Option.some.inj (hx522_1.symm.trans hx524_1)
              injection ea_ with ea_ en_ ec_
              subst ea_
              subst ec_
              clear en_
              have ea_ := Option.some.inj (hx522_2.symm.trans hx524_2)
              injection ea_ with ea_ en_ ec_
              subst ea_
              subst ec_
              clear en_
              refine start_ (n := 13) (S := fun w' => w'.cell? (ad521.add ((x8_2).toNat * 3)) = some (.int .i64 ((rd_T35 l0 x8_2).f0)) ∧ w'.cell? ⟨(ad521.add ((x8_2).toNat * 3)).block, (ad521.add ((x8_2).toNat * 3)).off + 1, none⟩ = some (.slice A522_1 ((rd_T35 l0 x8_2).f1).length c522_1) ∧ w'.cell? ⟨(ad521.add ((x8_2).toNat * 3)).block, (ad521.add ((x8_2).toNat * 3)).off + 2, none⟩ = some (.slice A522_2 ((rd_T35 l0 x8_2).f2).length c522_2) ∧ w'.cell? (ad521.add ((x8_2).toNat * 3)) = some (.int .i64 ((rd_T35 l0 x8_2).f0)) ∧ w'.cell? ⟨(ad521.add ((x8_2).toNat * 3)).block, (ad521.add ((x8_2).toNat * 3)).off + 1, none⟩ = some (.slice A522_1 ((rd_T35 l0 x8_2).f1).length c522_1) ∧ w'.cell? ⟨(ad521.add ((x8_2).toNat * 3)).block, (ad521.add ((x8_2).toNat * 3)).off + 2, none⟩ = some (.slice A522_2 ((rd_T35 l0 x8_2).f2).length c522_2)) (ds := []) L6_0 (by kernel_rfl) rfl rfl ⟨((HB.out.cell (World.block_lt_of_cell? w _ hw522_0)).trans hw522_0), ((HB.out.cell (World.block_lt_of_cell? w _ hw522_1)).trans hw522_1), ((HB.out.cell (World.block_lt_of_cell? w _ hw522_2)).trans hw522_2), ((HB.out.cell (World.block_lt_of_cell? w _ hw524_0)).trans hw524_0), ((HB.out.cell (World.block_lt_of_cell? w _ hw524_1)).trans hw524_1), ((HB.out.cell (World.block_lt_of_cell? w _ hw524_2)).trans hw524_2)⟩ (fun hHeld => ?_); refine with_tabW fullerlaw10_GraphNames.tab14 fullerlaw10_GraphNames.bits14 (fun HT_ HW_ => ?_)
              generalize wc.drew = w39 at HO_4 HO_5 HB HR522_1 HR522_2 HR524_1 HR524_2 hx522_0 hx522_1 hx522_2 hx524_0 hx524_1 hx524_2 hHeld ⊢
              refine pu_ 0 (some 83) L6_1 HT_ ?_
              refine pu_ 1 (some 84) L6_2 HT_ ?_
              refine pu_ 2 (some 85) L6_3 HT_ ?_
              refine pu_ 3 (some 86) L6_4 HT_ ?_
              refine pu_ 6 (some 89) L6_5 HT_ ?_
              refine pu_ 7 (some 90) L6_6 HT_ ?_
              refine pu_ 8 (some 91) L6_7 HT_ ?_
              refine pu_ 9 (some 92) L6_8 HT_ ?_
              refine ta_ 4 (some 87) L6_9 HT_ HW_ hHeld ?_ (hy := by rintro w' ⟨s0, s1, s2, s3, s4, s5⟩; go_simp; with_reducible rfl)
              refine ta_ 10 (some 93) L6_10 HT_ HW_ hHeld ?_ (hy := by rintro w' ⟨s0, s1, s2, s3, s4, s5⟩; go_simp; with_reducible rfl)
              refine pu_ 11 (some 94) L6_11 HT_ ?_
              refine one_ (i := 5) (N := some 88) L6_12 rfl rfl (one_of HT_.out (by kernel_rfl)) (by decide) (fun K hK => ?_)
              refine goes_ Try.func15 (by kernel_rfl) rfl #[.int .i64 ((rd_T35 l0 x8_2).f0)] (by rfl) rfl rfl (by (try simp only [List.map_toArray, List.map_cons, List.map_nil]); first | done | rfl | (simp only [List.length_drop, List.length_take]; rfl)) ?_
              with_reducible refine (graph_Arity.calls ((rd_T35 l0 x8_2).f0) t523 _ A37.out).mono ?_
              rintro e w40 ⟨rfl, hb⟩
              refine ⟨_, rfl, ?_⟩
              replace HO_4 := Aside0.mk (Kd.R_below (mvR_ HO_4.out) hb)
              replace HO_5 := Aside0.mk (Kd.R_below (mvR_ HO_5.out) hb)
              replace HB := Aside0.mk (below_step (bq0_ HB.out) hb)
              (try clear hb)
              (try clear hb2)
              (try clear hk)
              (try clear hi)
              refine hK.out _ _ ⟨((HB.out.cell (World.block_lt_of_cell? w _ hw522_0)).trans hw522_0), ((HB.out.cell (World.block_lt_of_cell? w _ hw522_1)).trans hw522_1), ((HB.out.cell (World.block_lt_of_cell? w _ hw522_2)).trans hw522_2), ((HB.out.cell (World.block_lt_of_cell? w _ hw524_0)).trans hw524_0), ((HB.out.cell (World.block_lt_of_cell? w _ hw524_1)).trans hw524_1), ((HB.out.cell (World.block_lt_of_cell? w _ hw524_2)).trans hw524_2)⟩ (fun hHeld => ?_)
              clear hK K
              refine norm_ (a' := ?_) ?_ ?_
              rotate_left
              ·show Act.put _ (some 88) _ = _
               simp only [Act.put, sA_, sB_, sC_, i64_w, i32_w]
               rfl
              refine pu_ 12 (some 95) L6_13 HT_ ?_
              refine done_ (done_of HT_.out (by kernel_rfl)) ?_
              try go_wp2
              go_roundg kj14
              case measure => have := HJ2.out; have := HK2.out; have := HJ14.out; omega
              case rel => exact ⟨(wrap64 (x7_2 + 1)), (wrap64 (x8_2 + 1)), (by first | rfl | (simp; done) | (simp [*]; done)), (by first | rfl | (simp; done) | (simp [*]; done)), H', ⟨by have := HJ2.out; have := HK2.out; have := HJ14.out; omega⟩, ⟨mvR_ HO_4.out⟩, ⟨mvR_ HO_5.out⟩, ⟨bq0_ HB.out⟩⟩
             ·rw [if_neg c38] at H
              have c38b0 : (t523 == (((rd_T35 l0 x8_2).f1).length : Int)) = false := beq_eq_false_iff_ne.mpr c38
              have c38b1 : (t523 != (((rd_T35 l0 x8_2).f1).length : Int)) = true := bne_iff_ne.mpr c38
              obtain rfl := Option.some.inj H
              have p521 : 0 ≤ (x8_2 : Int) := od_
              have q521 : x8_2 < (l0.length : Int) := od_
              obtain ⟨ad521, A521_1, c521_1, A521_2, c521_2, e521, hx521_0, hx521_1, hx521_2, hl521_1, hi521_1, hl521_2, hi521_2⟩ := at_T35 HR0.out x8_2 p521 q521
              cases e521
              replace hx521_0 := (HB.out.cell (World.block_lt_of_cell? w _ hx521_0)).trans hx521_0
              replace hx521_1 := (HB.out.cell (World.block_lt_of_cell? w _ hx521_1)).trans hx521_1
              replace hx521_2 := (HB.out.cell (World.block_lt_of_cell? w _ hx521_2)).trans hx521_2
              have HR521_1 := Aside0.mk hi521_1
              have HC521_1 := Aside0.mk hl521_1
              clear hi521_1 hl521_1
              have HR521_2 := Aside0.mk hi521_2
              have HC521_2 := Aside0.mk hl521_2
              clear hi521_2 hl521_2
              replace p521 := eq_true p521
              replace q521 := eq_true q521
              try go_wp2
              replace HO_4 := Aside0.mk (Kd.R_drew HO_4.out)
              replace HO_5 := Aside0.mk (Kd.R_drew HO_5.out)
              replace HB := Aside0.mk (below_drew1 HB.out)
              have p522 : 0 ≤ (x8_2 : Int) := od_
              have q522 : x8_2 < (l0.length : Int) := od_
              obtain ⟨ad522, A522_1, c522_1, A522_2, c522_2, e522, hx522_0, hx522_1, hx522_2, hl522_1, hi522_1, hl522_2, hi522_2⟩ := at_T35 HR0.out x8_2 p522 q522
              have hw522_2 := hx522_2
              have hw522_1 := hx522_1
              have hw522_0 := hx522_0
              obtain rfl : ad521 = ad522 := (by injection e522)
              replace hx522_0 := (HB.out.cell (World.block_lt_of_cell? w _ hx522_0)).trans hx522_0
              replace hx522_1 := (HB.out.cell (World.block_lt_of_cell? w _ hx522_1)).trans hx522_1
              replace hx522_2 := (HB.out.cell (World.block_lt_of_cell? w _ hx522_2)).trans hx522_2
              have HR522_1 := Aside0.mk hi522_1
              have HC522_1 := Aside0.mk hl522_1
              clear hi522_1 hl522_1
              have HR522_2 := Aside0.mk hi522_2
              have HC522_2 := Aside0.mk hl522_2
              clear hi522_2 hl522_2
              replace p522 := eq_true p522
              replace q522 := eq_true q522
              have p524 : 0 ≤ (x8_2 : Int) := od_
              have q524 : x8_2 < (l0.length : Int) := od_
              obtain ⟨ad524, A524_1, c524_1, A524_2, c524_2, e524, hx524_0, hx524_1, hx524_2, hl524_1, hi524_1, hl524_2, hi524_2⟩ := at_T35 HR0.out x8_2 p524 q524
              have hw524_2 := hx524_2
              have hw524_1 := hx524_1
              have hw524_0 := hx524_0
              obtain rfl : ad521 = ad524 := (by injection e524)
              replace hx524_0 := (HB.out.cell (World.block_lt_of_cell? w _ hx524_0)).trans hx524_0
              replace hx524_1 := (HB.out.cell (World.block_lt_of_cell? w _ hx524_1)).trans hx524_1
              replace hx524_2 := (HB.out.cell (World.block_lt_of_cell? w _ hx524_2)).trans hx524_2
              have HR524_1 := Aside0.mk hi524_1
              have HC524_1 := Aside0.mk hl524_1
              clear hi524_1 hl524_1
              have HR524_2 := Aside0.mk hi524_2
              have HC524_2 := Aside0.mk hl524_2
              clear hi524_2 hl524_2
              replace p524 := eq_true p524
              replace q524 := eq_true q524
              have ea_ := Option.some.inj (hx522_1.symm.trans hx524_1)
              injection ea_ with ea_ en_ ec_
              subst ea_
              subst ec_
              clear en_
              have ea_ := Option.some.inj (hx522_2.symm.trans hx524_2)
              injection ea_ with ea_ en_ ec_
              subst ea_
              subst ec_
              clear en_
              refine start_ (n := 13) (S := fun w' => w'.cell? (ad521.add ((x8_2).toNat * 3)) = some (.int .i64 ((rd_T35 l0 x8_2).f0)) ∧ w'.cell? ⟨(ad521.add ((x8_2).toNat * 3)).block, (ad521.add ((x8_2).toNat * 3)).off + 1, none⟩ = some (.slice A522_1 ((rd_T35 l0 x8_2).f1).length c522_1) ∧ w'.cell? ⟨(ad521.add ((x8_2).toNat * 3)).block, (ad521.add ((x8_2).toNat * 3)).off + 2, none⟩ = some (.slice A522_2 ((rd_T35 l0 x8_2).f2).length c522_2) ∧ w'.cell? (ad521.add ((x8_2).toNat * 3)) = some (.int .i64 ((rd_T35 l0 x8_2).f0)) ∧ w'.cell? ⟨(ad521.add ((x8_2).toNat * 3)).block, (ad521.add ((x8_2).toNat * 3)).off + 1, none⟩ = some (.slice A522_1 ((rd_T35 l0 x8_2).f1).length c522_1) ∧ w'.cell? ⟨(ad521.add ((x8_2).toNat * 3)).block, (ad521.add ((x8_2).toNat * 3)).off + 2, none⟩ = some (.slice A522_2 ((rd_T35 l0 x8_2).f2).length c522_2)) (ds := []) L6_0 (by kernel_rfl) rfl rfl ⟨((HB.out.cell (World.block_lt_of_cell? w _ hw522_0)).trans hw522_0), ((HB.out.cell (World.block_lt_of_cell? w _ hw522_1)).trans hw522_1), ((HB.out.cell (World.block_lt_of_cell? w _ hw522_2)).trans hw522_2), ((HB.out.cell (World.block_lt_of_cell? w _ hw524_0)).trans hw524_0), ((HB.out.cell (World.block_lt_of_cell? w _ hw524_1)).trans hw524_1), ((HB.out.cell (World.block_lt_of_cell? w _ hw524_2)).trans hw524_2)⟩ (fun hHeld => ?_); refine with_tabW fullerlaw10_GraphNames.tab14 fullerlaw10_GraphNames.bits14 (fun HT_ HW_ => ?_)
              generalize wc.drew = w41 at HO_4 HO_5 HB HR522_1 HR522_2 HR524_1 HR524_2 hx522_0 hx522_1 hx522_2 hx524_0 hx524_1 hx524_2 hHeld ⊢
              refine pu_ 0 (some 83) L6_1 HT_ ?_
              refine pu_ 1 (some 84) L6_2 HT_ ?_
              refine pu_ 2 (some 85) L6_3 HT_ ?_
              refine pu_ 3 (some 86) L6_4 HT_ ?_
              refine pu_ 6 (some 89) L6_5 HT_ ?_
              refine pu_ 7 (some 90) L6_6 HT_ ?_
              refine pu_ 8 (some 91) L6_7 HT_ ?_
              refine pu_ 9 (some 92) L6_8 HT_ ?_
              refine ta_ 4 (some 87) L6_9 HT_ HW_ hHeld ?_ (hy := by rintro w' ⟨s0, s1, s2, s3, s4, s5⟩; go_simp; with_reducible rfl)
              refine ta_ 10 (some 93) L6_10 HT_ HW_ hHeld ?_ (hy := by rintro w' ⟨s0, s1, s2, s3, s4, s5⟩; go_simp; with_reducible rfl)
              refine pu_ 11 (some 94) L6_11 HT_ ?_
              refine one_ (i := 5) (N := some 88) L6_12 rfl rfl (one_of HT_.out (by kernel_rfl)) (by decide) (fun K hK => ?_)
              refine goes_ Try.func15 (by kernel_rfl) rfl #[.int .i64 ((rd_T35 l0 x8_2).f0)] (by rfl) rfl rfl (by (try simp only [List.map_toArray, List.map_cons, List.map_nil]); first | done | rfl | (simp only [List.length_drop, List.length_take]; rfl)) ?_
              with_reducible refine (graph_Arity.calls ((rd_T35 l0 x8_2).f0) t523 _ A37.out).mono ?_
              rintro e w42 ⟨rfl, hb⟩
              refine ⟨_, rfl, ?_⟩
              replace HO_4 := Aside0.mk (Kd.R_below (mvR_ HO_4.out) hb)
              replace HO_5 := Aside0.mk (Kd.R_below (mvR_ HO_5.out) hb)
              replace HB := Aside0.mk (below_step (bq0_ HB.out) hb)
              (try clear hb)
              (try clear hb2)
              (try clear hk)
              (try clear hi)
              refine hK.out _ _ ⟨((HB.out.cell (World.block_lt_of_cell? w _ hw522_0)).trans hw522_0), ((HB.out.cell (World.block_lt_of_cell? w _ hw522_1)).trans hw522_1), ((HB.out.cell (World.block_lt_of_cell? w _ hw522_2)).trans hw522_2), ((HB.out.cell (World.block_lt_of_cell? w _ hw524_0)).trans hw524_0), ((HB.out.cell (World.block_lt_of_cell? w _ hw524_1)).trans hw524_1), ((HB.out.cell (World.block_lt_of_cell? w _ hw524_2)).trans hw524_2)⟩ (fun hHeld => ?_)
              clear hK K
              refine norm_ (a' := ?_) ?_ ?_
              rotate_left
              ·show Act.put _ (some 88) _ = _
               simp only [Act.put, sA_, sB_, sC_, i64_w, i32_w]
               rfl
              refine pu_ 12 (some 95) L6_13 HT_ ?_
              refine done_ (done_of HT_.out (by kernel_rfl)) ?_
              try go_wp2
              go_ret
              exact ⟨by first | rfl | (simp <;> rfl) | (simp [*] <;> rfl), bq0_ HB.out⟩
            ·rw [if_neg c36] at H
             have c36b0 : (((rd_T35 l0 x8_2).f0) == 1) = false := beq_eq_false_iff_ne.mpr c36
             have c36b1 : (((rd_T35 l0 x8_2).f0) != 1) = true := bne_iff_ne.mpr c36
             replace H := Option.bind_eq_some_iff.mp H
             obtain ⟨t526, A430, H⟩ := H
             replace H : (if t526 = (((rd_T35 l0 x8_2).f1).length : Int) then (fullerlaw10_GraphNames.l0 kj14 l0 t501 t504 t507 t508 x7_2 (wrap64 (x8_2 + 1))) else (some false)) = some r := H
             have A43 := Aside0.mk A430
             clear A430
             by_cases c44 : t526 = (((rd_T35 l0 x8_2).f1).length : Int)
             ·rw [if_pos c44] at H
              obtain ⟨c44b0, c44b1⟩ := eqT_ c44
              clear c44
              have H' := Aside0.mk H
              clear H
              have p521 : 0 ≤ (x8_2 : Int) := od_
              have q521 : x8_2 < (l0.length : Int) := od_
              obtain ⟨ad521, A521_1, c521_1, A521_2, c521_2, e521, hx521_0, hx521_1, hx521_2, hl521_1, hi521_1, hl521_2, hi521_2⟩ := at_T35 HR0.out x8_2 p521 q521
              cases e521
              replace hx521_0 := (HB.out.cell (World.block_lt_of_cell? w _ hx521_0)).trans hx521_0
              replace hx521_1 := (HB.out.cell (World.block_lt_of_cell? w _ hx521_1)).trans hx521_1
              replace hx521_2 := (HB.out.cell (World.block_lt_of_cell? w _ hx521_2)).trans hx521_2
              have HR521_1 := Aside0.mk hi521_1
              have HC521_1 := Aside0.mk hl521_1
              clear hi521_1 hl521_1
              have HR521_2 := Aside0.mk hi521_2
              have HC521_2 := Aside0.mk hl521_2
              clear hi521_2 hl521_2
              replace p521 := eq_true p521
              replace q521 := eq_true q521
              try go_wp2
              replace HO_4 := Aside0.mk (Kd.R_drew HO_4.out)
              replace HO_5 := Aside0.mk (Kd.R_drew HO_5.out)
              replace HB := Aside0.mk (below_drew1 HB.out)
              have p525 : 0 ≤ (x8_2 : Int) := od_
              have q525 : x8_2 < (l0.length : Int) := od_
              obtain ⟨ad525, A525_1, c525_1, A525_2, c525_2, e525, hx525_0, hx525_1, hx525_2, hl525_1, hi525_1, hl525_2, hi525_2⟩ := at_T35 HR0.out x8_2 p525 q525
              have hw525_2 := hx525_2
              have hw525_1 := hx525_1
              have hw525_0 := hx525_0
              obtain rfl : ad521 = ad525 := (by injection e525)
              replace hx525_0 := (HB.out.cell (World.block_lt_of_cell? w _ hx525_0)).trans hx525_0
              replace hx525_1 := (HB.out.cell (World.block_lt_of_cell? w _ hx525_1)).trans hx525_1
              replace hx525_2 := (HB.out.cell (World.block_lt_of_cell? w _ hx525_2)).trans hx525_2
              have HR525_1 := Aside0.mk hi525_1
              have HC525_1 := Aside0.mk hl525_1
              clear hi525_1 hl525_1
              have HR525_2 := Aside0.mk hi525_2
              have HC525_2 := Aside0.mk hl525_2
              clear hi525_2 hl525_2
              replace p525 := eq_true p525
              replace q525 := eq_true q525
              have p527 : 0 ≤ (x8_2 : Int) := od_
              have q527 : x8_2 < (l0.length : Int) := od_
              obtain ⟨ad527, A527_1, c527_1, A527_2, c527_2, e527, hx527_0, hx527_1, hx527_2, hl527_1, hi527_1, hl527_2, hi527_2⟩ := at_T35 HR0.out x8_2 p527 q527
              have hw527_2 := hx527_2
              have hw527_1 := hx527_1
              have hw527_0 := hx527_0
              obtain rfl : ad521 = ad527 := (by injection e527)
              replace hx527_0 := (HB.out.cell (World.block_lt_of_cell? w _ hx527_0)).trans hx527_0
              replace hx527_1 := (HB.out.cell (World.block_lt_of_cell? w _ hx527_1)).trans hx527_1
              replace hx527_2 := (HB.out.cell (World.block_lt_of_cell? w _ hx527_2)).trans hx527_2
              have HR527_1 := Aside0.mk hi527_1
              have HC527_1 := Aside0.mk hl527_1
              clear hi527_1 hl527_1
              have HR527_2 := Aside0.mk hi527_2
              have HC527_2 := Aside0.mk hl527_2
              clear hi527_2 hl527_2
              replace p527 := eq_true p527
              replace q527 := eq_true q527
              have ea_ := Option.some.inj (hx525_1.symm.trans hx527_1)
              injection ea_ with ea_ en_ ec_
              subst ea_
              subst ec_
              clear en_
              have ea_ := Option.some.inj (hx525_2.symm.trans hx527_2)
              injection ea_ with ea_ en_ ec_
              subst ea_
              subst ec_
              clear en_
              refine start_ (n := 13) (S := fun w' => w'.cell? (ad521.add ((x8_2).toNat * 3)) = some (.int .i64 ((rd_T35 l0 x8_2).f0)) ∧ w'.cell? ⟨(ad521.add ((x8_2).toNat * 3)).block, (ad521.add ((x8_2).toNat * 3)).off + 1, none⟩ = some (.slice A525_1 ((rd_T35 l0 x8_2).f1).length c525_1) ∧ w'.cell? ⟨(ad521.add ((x8_2).toNat * 3)).block, (ad521.add ((x8_2).toNat * 3)).off + 2, none⟩ = some (.slice A525_2 ((rd_T35 l0 x8_2).f2).length c525_2) ∧ w'.cell? (ad521.add ((x8_2).toNat * 3)) = some (.int .i64 ((rd_T35 l0 x8_2).f0)) ∧ w'.cell? ⟨(ad521.add ((x8_2).toNat * 3)).block, (ad521.add ((x8_2).toNat * 3)).off + 1, none⟩ = some (.slice A525_1 ((rd_T35 l0 x8_2).f1).length c525_1) ∧ w'.cell? ⟨(ad521.add ((x8_2).toNat * 3)).block, (ad521.add ((x8_2).toNat * 3)).off + 2, none⟩ = some (.slice A525_2 ((rd_T35 l0 x8_2).f2).length c525_2)) (ds := []) L6_0 (by kernel_rfl) rfl rfl ⟨((HB.out.cell (World.block_lt_of_cell? w _ hw525_0)).trans hw525_0), ((HB.out.cell (World.block_lt_of_cell? w _ hw525_1)).trans hw525_1), ((HB.out.cell (World.block_lt_of_cell? w _ hw525_2)).trans hw525_2), ((HB.out.cell (World.block_lt_of_cell? w _ hw527_0)).trans hw527_0), ((HB.out.cell (World.block_lt_of_cell? w _ hw527_1)).trans hw527_1), ((HB.out.cell (World.block_lt_of_cell? w _ hw527_2)).trans hw527_2)⟩ (fun hHeld => ?_); refine with_tabW fullerlaw10_GraphNames.tab14 fullerlaw10_GraphNames.bits14 (fun HT_ HW_ => ?_)
              generalize wc.drew = w45 at HO_4 HO_5 HB HR525_1 HR525_2 HR527_1 HR527_2 hx525_0 hx525_1 hx525_2 hx527_0 hx527_1 hx527_2 hHeld ⊢
              refine pu_ 0 (some 83) L6_1 HT_ ?_
              refine pu_ 1 (some 84) L6_2 HT_ ?_
              refine pu_ 2 (some 85) L6_3 HT_ ?_
              refine pu_ 3 (some 86) L6_4 HT_ ?_
              refine pu_ 6 (some 89) L6_5 HT_ ?_
              refine pu_ 7 (some 90) L6_6 HT_ ?_
              refine pu_ 8 (some 91) L6_7 HT_ ?_
              refine pu_ 9 (some 92) L6_8 HT_ ?_
              refine ta_ 4 (some 87) L6_9 HT_ HW_ hHeld ?_ (hy := by rintro w' ⟨s0, s1, s2, s3, s4, s5⟩; go_simp; with_reducible rfl)
              refine ta_ 10 (some 93) L6_10 HT_ HW_ hHeld ?_ (hy := by rintro w' ⟨s0, s1, s2, s3, s4, s5⟩; go_simp; with_reducible rfl)
              refine pu_ 11 (some 94) L6_11 HT_ ?_
              refine one_ (i := 5) (N := some 88) L6_12 rfl rfl (one_of HT_.out (by kernel_rfl)) (by decide) (fun K hK => ?_)
              refine goes_ Try.func15 (by kernel_rfl) rfl #[.int .i64 ((rd_T35 l0 x8_2).f0)] (by rfl) rfl rfl (by (try simp only [List.map_toArray, List.map_cons, List.map_nil]); first | done | rfl | (simp only [List.length_drop, List.length_take]; rfl)) ?_
              with_reducible refine (graph_Arity.calls ((rd_T35 l0 x8_2).f0) t526 _ A43.out).mono ?_
              rintro e w46 ⟨rfl, hb⟩
              refine ⟨_, rfl, ?_⟩
              replace HO_4 := Aside0.mk (Kd.R_below (mvR_ HO_4.out) hb)
              replace HO_5 := Aside0.mk (Kd.R_below (mvR_ HO_5.out) hb)
              replace HB := Aside0.mk (below_step (bq0_ HB.out) hb)
              (try clear hb)
              (try clear hb2)
              (try clear hk)
              (try clear hi)
              refine hK.out _ _ ⟨((HB.out.cell (World.block_lt_of_cell? w _ hw525_0)).trans hw525_0), ((HB.out.cell (World.block_lt_of_cell? w _ hw525_1)).trans hw525_1), ((HB.out.cell (World.block_lt_of_cell? w _ hw525_2)).trans hw525_2), ((HB.out.cell (World.block_lt_of_cell? w _ hw527_0)).trans hw527_0), ((HB.out.cell (World.block_lt_of_cell? w _ hw527_1)).trans hw527_1), ((HB.out.cell (World.block_lt_of_cell? w _ hw527_2)).trans hw527_2)⟩ (fun hHeld => ?_)
              clear hK K
              refine norm_ (a' := ?_) ?_ ?_
              rotate_left
              ·show Act.put _ (some 88) _ = _
               simp only [Act.put, sA_, sB_, sC_, i64_w, i32_w]
               rfl
              refine pu_ 12 (some 95) L6_13 HT_ ?_
              refine done_ (done_of HT_.out (by kernel_rfl)) ?_
              try go_wp2
              go_roundg kj14
              case measure => have := HJ2.out; have := HK2.out; have := HJ14.out; omega
              case rel => exact ⟨(x7_2), (wrap64 (x8_2 + 1)), (by first | rfl | (simp; done) | (simp [*]; done)), (by first | rfl | (simp; done) | (simp [*]; done)), H', ⟨by have := HJ2.out; have := HK2.out; have := HJ14.out; omega⟩, ⟨mvR_ HO_4.out⟩, ⟨mvR_ HO_5.out⟩, ⟨bq0_ HB.out⟩⟩
             ·rw [if_neg c44] at H
              have c44b0 : (t526 == (((rd_T35 l0 x8_2).f1).length : Int)) = false := beq_eq_false_iff_ne.mpr c44
              have c44b1 : (t526 != (((rd_T35 l0 x8_2).f1).length : Int)) = true := bne_iff_ne.mpr c44
              obtain rfl := Option.some.inj H
              have p521 : 0 ≤ (x8_2 : Int) := od_
              have q521 : x8_2 < (l0.length : Int) := od_
              obtain ⟨ad521, A521_1, c521_1, A521_2, c521_2, e521, hx521_0, hx521_1, hx521_2, hl521_1, hi521_1, hl521_2, hi521_2⟩ := at_T35 HR0.out x8_2 p521 q521
              cases e521
              replace hx521_0 := (HB.out.cell (World.block_lt_of_cell? w _ hx521_0)).trans hx521_0
              replace hx521_1 := (HB.out.cell (World.block_lt_of_cell? w _ hx521_1)).trans hx521_1
              replace hx521_2 := (HB.out.cell (World.block_lt_of_cell? w _ hx521_2)).trans hx521_2
              have HR521_1 := Aside0.mk hi521_1
              have HC521_1 := Aside0.mk hl521_1
              clear hi521_1 hl521_1
              have HR521_2 := Aside0.mk hi521_2
              have HC521_2 := Aside0.mk hl521_2
              clear hi521_2 hl521_2
              replace p521 := eq_true p521
              replace q521 := eq_true q521
              try go_wp2
              replace HO_4 := Aside0.mk (Kd.R_drew HO_4.out)
              replace HO_5 := Aside0.mk (Kd.R_drew HO_5.out)
              replace HB := Aside0.mk (below_drew1 HB.out)
              have p525 : 0 ≤ (x8_2 : Int) := od_
              have q525 : x8_2 < (l0.length : Int) := od_
              obtain ⟨ad525, A525_1, c525_1, A525_2, c525_2, e525, hx525_0, hx525_1, hx525_2, hl525_1, hi525_1, hl525_2, hi525_2⟩ := at_T35 HR0.out x8_2 p525 q525
              have hw525_2 := hx525_2
              have hw525_1 := hx525_1
              have hw525_0 := hx525_0
              obtain rfl : ad521 = ad525 := (by injection e525)
              replace hx525_0 := (HB.out.cell (World.block_lt_of_cell? w _ hx525_0)).trans hx525_0
              replace hx525_1 := (HB.out.cell (World.block_lt_of_cell? w _ hx525_1)).trans hx525_1
              replace hx525_2 := (HB.out.cell (World.block_lt_of_cell? w _ hx525_2)).trans hx525_2
              have HR525_1 := Aside0.mk hi525_1
              have HC525_1 := Aside0.mk hl525_1
              clear hi525_1 hl525_1
              have HR525_2 := Aside0.mk hi525_2
              have HC525_2 := Aside0.mk hl525_2
              clear hi525_2 hl525_2
              replace p525 := eq_true p525
              replace q525 := eq_true q525
              have p527 : 0 ≤ (x8_2 : Int) := od_
              have q527 : x8_2 < (l0.length : Int) := od_
              obtain ⟨ad527, A527_1, c527_1, A527_2, c527_2, e527, hx527_0, hx527_1, hx527_2, hl527_1, hi527_1, hl527_2, hi527_2⟩ := at_T35 HR0.out x8_2 p527 q527
              have hw527_2 := hx527_2
              have hw527_1 := hx527_1
              have hw527_0 := hx527_0
              obtain rfl : ad521 = ad527 := (by injection e527)
              replace hx527_0 := (HB.out.cell (World.block_lt_of_cell? w _ hx527_0)).trans hx527_0
              replace hx527_1 := (HB.out.cell (World.block_lt_of_cell? w _ hx527_1)).trans hx527_1
              replace hx527_2 := (HB.out.cell (World.block_lt_of_cell? w _ hx527_2)).trans hx527_2
              have HR527_1 := Aside0.mk hi527_1
              have HC527_1 := Aside0.mk hl527_1
              clear hi527_1 hl527_1
              have HR527_2 := Aside0.mk hi527_2
              have HC527_2 := Aside0.mk hl527_2
              clear hi527_2 hl527_2
              replace p527 := eq_true p527
              replace q527 := eq_true q527
              have ea_ := Option.some.inj (hx525_1.symm.trans hx527_1)
              injection ea_ with ea_ en_ ec_
              subst ea_
              subst ec_
              clear en_
              have ea_ := Option.some.inj (hx525_2.symm.trans hx527_2)
              injection ea_ with ea_ en_ ec_
              subst ea_
              subst ec_
              clear en_
              refine start_ (n := 13) (S := fun w' => w'.cell? (ad521.add ((x8_2).toNat * 3)) = some (.int .i64 ((rd_T35 l0 x8_2).f0)) ∧ w'.cell? ⟨(ad521.add ((x8_2).toNat * 3)).block, (ad521.add ((x8_2).toNat * 3)).off + 1, none⟩ = some (.slice A525_1 ((rd_T35 l0 x8_2).f1).length c525_1) ∧ w'.cell? ⟨(ad521.add ((x8_2).toNat * 3)).block, (ad521.add ((x8_2).toNat * 3)).off + 2, none⟩ = some (.slice A525_2 ((rd_T35 l0 x8_2).f2).length c525_2) ∧ w'.cell? (ad521.add ((x8_2).toNat * 3)) = some (.int .i64 ((rd_T35 l0 x8_2).f0)) ∧ w'.cell? ⟨(ad521.add ((x8_2).toNat * 3)).block, (ad521.add ((x8_2).toNat * 3)).off + 1, none⟩ = some (.slice A525_1 ((rd_T35 l0 x8_2).f1).length c525_1) ∧ w'.cell? ⟨(ad521.add ((x8_2).toNat * 3)).block, (ad521.add ((x8_2).toNat * 3)).off + 2, none⟩ = some (.slice A525_2 ((rd_T35 l0 x8_2).f2).length c525_2)) (ds := []) L6_0 (by kernel_rfl) rfl rfl ⟨((HB.out.cell (World.block_lt_of_cell? w _ hw525_0)).trans hw525_0), ((HB.out.cell (World.block_lt_of_cell? w _ hw525_1)).trans hw525_1), ((HB.out.cell (World.block_lt_of_cell? w _ hw525_2)).trans hw525_2), ((HB.out.cell (World.block_lt_of_cell? w _ hw527_0)).trans hw527_0), ((HB.out.cell (World.block_lt_of_cell? w _ hw527_1)).trans hw527_1), ((HB.out.cell (World.block_lt_of_cell? w _ hw527_2)).trans hw527_2)⟩ (fun hHeld => ?_); refine with_tabW fullerlaw10_GraphNames.tab14 fullerlaw10_GraphNames.bits14 (fun HT_ HW_ => ?_)
              generalize wc.drew = w47 at HO_4 HO_5 HB HR525_1 HR525_2 HR527_1 HR527_2 hx525_0 hx525_1 hx525_2 hx527_0 hx527_1 hx527_2 hHeld ⊢
              refine pu_ 0 (some 83) L6_1 HT_ ?_
              refine pu_ 1 (some 84) L6_2 HT_ ?_
              refine pu_ 2 (some 85) L6_3 HT_ ?_
              refine pu_ 3 (some 86) L6_4 HT_ ?_
              refine pu_ 6 (some 89) L6_5 HT_ ?_
              refine pu_ 7 (some 90) L6_6 HT_ ?_
              refine pu_ 8 (some 91) L6_7 HT_ ?_
              refine pu_ 9 (some 92) L6_8 HT_ ?_
              refine ta_ 4 (some 87) L6_9 HT_ HW_ hHeld ?_ (hy := by rintro w' ⟨s0, s1, s2, s3, s4, s5⟩; go_simp; with_reducible rfl)
              refine ta_ 10 (some 93) L6_10 HT_ HW_ hHeld ?_ (hy := by rintro w' ⟨s0, s1, s2, s3, s4, s5⟩; go_simp; with_reducible rfl)
              refine pu_ 11 (some 94) L6_11 HT_ ?_
              refine one_ (i := 5) (N := some 88) L6_12 rfl rfl (one_of HT_.out (by kernel_rfl)) (by decide) (fun K hK => ?_)
              refine goes_ Try.func15 (by kernel_rfl) rfl #[.int .i64 ((rd_T35 l0 x8_2).f0)] (by rfl) rfl rfl (by (try simp only [List.map_toArray, List.map_cons, List.map_nil]); first | done | rfl | (simp only [List.length_drop, List.length_take]; rfl)) ?_
              with_reducible refine (graph_Arity.calls ((rd_T35 l0 x8_2).f0) t526 _ A43.out).mono ?_
              rintro e w48 ⟨rfl, hb⟩
              refine ⟨_, rfl, ?_⟩
              replace HO_4 := Aside0.mk (Kd.R_below (mvR_ HO_4.out) hb)
              replace HO_5 := Aside0.mk (Kd.R_below (mvR_ HO_5.out) hb)
              replace HB := Aside0.mk (below_step (bq0_ HB.out) hb)
              (try clear hb)
              (try clear hb2)
              (try clear hk)
              (try clear hi)
              refine hK.out _ _ ⟨((HB.out.cell (World.block_lt_of_cell? w _ hw525_0)).trans hw525_0), ((HB.out.cell (World.block_lt_of_cell? w _ hw525_1)).trans hw525_1), ((HB.out.cell (World.block_lt_of_cell? w _ hw525_2)).trans hw525_2), ((HB.out.cell (World.block_lt_of_cell? w _ hw527_0)).trans hw527_0), ((HB.out.cell (World.block_lt_of_cell? w _ hw527_1)).trans hw527_1), ((HB.out.cell (World.block_lt_of_cell? w _ hw527_2)).trans hw527_2)⟩ (fun hHeld => ?_)
              clear hK K
              refine norm_ (a' := ?_) ?_ ?_
              rotate_left
              ·show Act.put _ (some 88) _ = _
               simp only [Act.put, sA_, sB_, sC_, i64_w, i32_w]
               rfl
              refine pu_ 12 (some 95) L6_13 HT_ ?_
              refine done_ (done_of HT_.out (by kernel_rfl)) ?_
              try go_wp2
              go_ret
              exact ⟨by first | rfl | (simp <;> rfl) | (simp [*] <;> rfl), bq0_ HB.out⟩
           ·rw [if_neg c35] at H
            exact absurd H (by simp)
          ·rw [if_neg c34] at H
           exact absurd H (by simp)
      ·rw [if_neg c14] at H
       have c14b0 : decide (x8_2 < (l0.length : Int)) = false := decide_eq_false c14
       clear c14
       have H' := Aside0.mk H
       clear H
       go_wp2
       go_loopg [9] k2 (fun kq v9 w' => ∃ (x9_3 : Int), v9 = .int .i64 x9_3 ∧ Aside0 (fullerlaw10_GraphNames.l1 kq l0 t501 t504 t508 x7_2 x9_3 = some r) ∧ Aside0 (kq ≤ k2) ∧ Aside0 (Kd.R (Kd.int .i64) 3 w' w.heap.size (fun _ => True) v505 t504) ∧ Aside0 (Below w.heap.size w w'))
       case atStart => exact ⟨(0), (by first | rfl | (simp; done) | (simp [*]; done)), H', ⟨Nat.le_refl _⟩, ⟨by (with_reducible repeat (first | apply Kd.R_alloc | apply Kd.R_drewN | apply Kd.R_drew)); exact Kd.R_mono HO_4.out (fun _ hk => trivial)⟩, ⟨bq0_ HB.out⟩⟩
       case round =>
        clear H'
        try clear c1
        try clear p2
        try clear c3
        try clear c4
        try clear c5
        try clear p5
        try clear q5
        try clear hx5
        try clear p6
        try clear c14
        try clear c14b0
        try clear c15
        try clear c34
        try clear c35
        try clear c36
        try clear c36b0
        try clear c36b1
        try clear c44
        try clear c44b0
        try clear c44b1
        try clear hx521_0
        try clear hx521_1
        try clear hx521_2
        try clear hx522_0
        try clear hx522_1
        try clear hx522_2
        try clear hx524_0
        try clear hx524_1
        try clear hx524_2
        try clear hx525_0
        try clear hx525_1
        try clear hx525_2
        try clear hx527_0
        try clear hx527_1
        try clear hx527_2
        try clear p521
        try clear p522
        try clear p524
        try clear p525
        try clear p527
        try clear q521
        try clear q522
        try clear q524
        try clear q525
        try clear q527
        obtain ⟨x9_3, rfl, HA, HK3, HO_4, HB⟩ := hrel
        cases gk with
        | zero => exact absurd HA.out (by simp [fullerlaw10_GraphNames.l1])
        | succ k3 =>
         have H := HA.out
         clear HA
         simp only [fullerlaw10_GraphNames.l1] at H
         by_cases c49 : x9_3 < (t504.length : Int)
         ·rw [if_pos c49] at H
          have c49b0 : decide (x9_3 < (t504.length : Int)) = true := decide_eq_true c49
          clear c49
          have H' := Aside0.mk H
          clear H
          obtain ⟨Ao50, co50, eo50⟩ := Kd.R_slice HO_4.out
          subst eo50
          go_wp2
          go_loopg [10, 11] k3 (fun kq v10 v11 w' => ∃ (x10_4 : Bool) (x11_4 : Int), v10 = .bool x10_4 ∧ v11 = .int .i64 x11_4 ∧ Aside0 (fullerlaw10_GraphNames.l2 kq l0 t501 t504 t508 x7_2 x9_3 x10_4 x11_4 = some r) ∧ Aside0 (kq ≤ k3) ∧ Aside0 (Kd.R (Kd.int .i64) 3 w' w.heap.size (fun _ => True) (.slice Ao50 t504.length co50) t504) ∧ Aside0 (Below w.heap.size w w'))
          case atStart => exact ⟨(false), (0), (by first | rfl | (simp; done) | (simp [*]; done)), (by first | rfl | (simp; done) | (simp [*]; done)), H', ⟨Nat.le_refl _⟩, ⟨mvR_ HO_4.out⟩, ⟨bq0_ HB.out⟩⟩
          case round =>
           clear H'
           try clear c1
           try clear p2
           try clear c3
           try clear c4
           try clear c5
           try clear p5
           try clear q5
           try clear hx5
           try clear p6
           try clear c14
           try clear c14b0
           try clear c15
           try clear c34
           try clear c35
           try clear c36
           try clear c36b0
           try clear c36b1
           try clear c44
           try clear c44b0
           try clear c44b1
           try clear c49
           try clear c49b0
           try clear hx521_0
           try clear hx521_1
           try clear hx521_2
           try clear hx522_0
           try clear hx522_1
           try clear hx522_2
           try clear hx524_0
           try clear hx524_1
           try clear hx524_2
           try clear hx525_0
           try clear hx525_1
           try clear hx525_2
           try clear hx527_0
           try clear hx527_1
           try clear hx527_2
           try clear p2
           try clear p5
           try clear p521
           try clear p522
           try clear p524
           try clear p525
           try clear p527
           try clear p6
           try clear q5
           try clear q521
           try clear q522
           try clear q524
           try clear q525
           try clear q527
           obtain ⟨x10_4, x11_4, rfl, rfl, HA, HK4, HO_4, HB⟩ := hrel
           cases gk with
           | zero => exact absurd HA.out (by simp [fullerlaw10_GraphNames.l2])
           | succ k4 =>
            have H := HA.out
            clear HA
            simp only [fullerlaw10_GraphNames.l2] at H
            by_cases c51 : x11_4 < (l0.length : Int)
            ·rw [if_pos c51] at H
             have c51b0 : decide (x11_4 < (l0.length : Int)) = true := decide_eq_true c51
             clear c51
             by_cases c52 : x10_4 = true
             ·subst c52
              have H1 : (fullerlaw10_GraphNames.l2 k4 l0 t501 t504 t508 x7_2 x9_3 true (wrap64 (x11_4 + 1))) = some r := by rw [if_pos rfl] at H; exact H
              clear H
              have H := H1
              clear H1
              have H' := Aside0.mk H
              clear H
              try go_wp2
              replace HO_4 := Aside0.mk (Kd.R_drew HO_4.out)
              replace HB := Aside0.mk (below_drew1 HB.out)
              refine start_ (n := 24) (S := fun w' => True) (ds := []) L6_14 (by kernel_rfl) rfl rfl trivial (fun hHeld => ?_); refine with_tabW fullerlaw10_GraphNames.tab23 fullerlaw10_GraphNames.bits23 (fun HT_ HW_ => ?_)
              generalize wr.drew = w53 at HO_4 HB hHeld ⊢
              refine pu_ 0 (some 108) L6_15 HT_ ?_
              refine pu_ 1 (some 109) L6_16 HT_ ?_
              refine skips_ (fuel := 2) (m := 22) HT_.out (fun _ _ _ _ _ h => h) [(2, 110), (3, 111), (4, 112), (5, 113), (6, 114), (7, 115), (8, 116), (9, 117), (10, 118), (11, 119), (12, 120), (13, 121), (14, 122), (15, 123), (16, 124), (17, 125), (18, 126), (19, 127), (20, 128), (21, 129)] L6_17 rfl (by kernel_rfl) (by kernel_rfl) (a' := ?_) ?_ ?_
              rotate_left
              ·simp only [putU, Act.put, sA_, sB_, sC_]
               rfl
              refine pu_ 22 (some 130) L6_18 HT_ ?_
              refine pu_ 23 (some 10) L6_19 HT_ ?_
              refine done_ (done_of HT_.out (by kernel_rfl)) ?_
              try go_wp2
              go_roundg k4
              case measure => have := HJ2.out; have := HK2.out; have := HK3.out; have := HK4.out; omega
              case rel => exact ⟨(true), (wrap64 (x11_4 + 1)), (by first | rfl | (simp; done) | (simp [*]; done)), (by first | rfl | (simp; done) | (simp [*]; done)), H', ⟨by have := HJ2.out; have := HK2.out; have := HK3.out; have := HK4.out; omega⟩, ⟨mvR_ HO_4.out⟩, ⟨bq0_ HB.out⟩⟩
             ·replace c52 := Bool.eq_false_iff.mpr c52
              subst c52
              have H1 : (if 0 ≤ x11_4 then (if ((rd_T35 l0 x11_4).f0) = 2 then (if 0 < (((rd_T35 l0 x11_4).f2).length : Int) then (if 0 ≤ x9_3 then (if x9_3 < (t504.length : Int) then (fullerlaw10_GraphNames.l2 k4 l0 t501 t504 t508 x7_2 x9_3 ((rd ((rd_T35 l0 x11_4).f2) 0) == (rd t504 x9_3)) (wrap64 (x11_4 + 1))) else (none)) else (none)) else (none)) else (fullerlaw10_GraphNames.l2 k4 l0 t501 t504 t508 x7_2 x9_3 false (wrap64 (x11_4 + 1)))) else (none)) = some r := by rw [if_neg (show ¬ (false = true) by decide)] at H; exact H
              clear H
              have H := H1
              clear H1
              by_cases c54 : 0 ≤ x11_4
              ·rw [if_pos c54] at H
               have c54b0 : decide (0 ≤ x11_4) = true := decide_eq_true c54
               clear c54
               by_cases c55 : ((rd_T35 l0 x11_4).f0) = 2
               ·rw [if_pos c55] at H
                obtain ⟨c55b0, c55b1⟩ := eqT_ c55
                clear c55
                by_cases c56 : 0 < (((rd_T35 l0 x11_4).f2).length : Int)
                ·rw [if_pos c56] at H
                 have c56b0 : decide (0 < (((rd_T35 l0 x11_4).f2).length : Int)) = true := decide_eq_true c56
                 have c56b1 : decide (0 < ((rd_T35 l0 x11_4).f2).length) = true := decide_eq_true (by omega)
                 clear c56
                 by_cases c57 : 0 ≤ x9_3
                 ·rw [if_pos c57] at H
                  have c57b0 : decide (0 ≤ x9_3) = true := decide_eq_true c57
                  clear c57
                  by_cases c58 : x9_3 < (t504.length : Int)
                  ·rw [if_pos c58] at H
                   have c58b0 : decide (x9_3 < (t504.length : Int)) = true := decide_eq_true c58
                   clear c58
                   have H' := Aside0.mk H
                   clear H
                   try go_wp2
                   replace HO_4 := Aside0.mk (Kd.R_drew HO_4.out)
                   replace HB := Aside0.mk (below_drew1 HB.out)
                   have p528 : 0 ≤ (x11_4 : Int) := od_
                   have q528 : x11_4 < (l0.length : Int) := od_
                   obtain ⟨ad528, A528_1, c528_1, A528_2, c528_2, e528, hx528_0, hx528_1, hx528_2, hl528_1, hi528_1, hl528_2, hi528_2⟩ := at_T35 HR0.out x11_4 p528 q528
                   have hw528_2 := hx528_2
                   have hw528_1 := hx528_1
                   have hw528_0 := hx528_0
                   cases e528
                   replace hx528_0 := (HB.out.cell (World.block_lt_of_cell? w _ hx528_0)).trans hx528_0
                   replace hx528_1 := (HB.out.cell (World.block_lt_of_cell? w _ hx528_1)).trans hx528_1
                   replace hx528_2 := (HB.out.cell (World.block_lt_of_cell? w _ hx528_2)).trans hx528_2
                   have HR528_1 := Aside0.mk hi528_1
                   have HC528_1 := Aside0.mk hl528_1
                   clear hi528_1 hl528_1
                   have HR528_2 := Aside0.mk hi528_2
                   have HC528_2 := Aside0.mk hl528_2
                   clear hi528_2 hl528_2
                   replace p528 := eq_true p528
                   replace q528 := eq_true q528
                   have p529 : 0 ≤ (x11_4 : Int) := od_
                   have q529 : x11_4 < (l0.length : Int) := od_
                   obtain ⟨ad529, A529_1, c529_1, A529_2, c529_2, e529, hx529_0, hx529_1, hx529_2, hl529_1, hi529_1, hl529_2, hi529_2⟩ := at_T35 HR0.out x11_4 p529 q529
                   have hw529_2 := hx529_2
                   have hw529_1 := hx529_1
                   have hw529_0 := hx529_0
                   obtain rfl : ad528 = ad529 := (by injection e529)
                   replace hx529_0 := (HB.out.cell (World.block_lt_of_cell? w _ hx529_0)).trans hx529_0
                   replace hx529_1 := (HB.out.cell (World.block_lt_of_cell? w _ hx529_1)).trans hx529_1
                   replace hx529_2 := (HB.out.cell (World.block_lt_of_cell? w _ hx529_2)).trans hx529_2
                   have HR529_1 := Aside0.mk hi529_1
                   have HC529_1 := Aside0.mk hl529_1
                   clear hi529_1 hl529_1
                   have HR529_2 := Aside0.mk hi529_2
                   have HC529_2 := Aside0.mk hl529_2
                   clear hi529_2 hl529_2
                   replace p529 := eq_true p529
                   replace q529 := eq_true q529
                   have ea_ := Option.some.inj (hx528_1.symm.trans hx529_1)
                   injection ea_ with ea_ en_ ec_
                   subst ea_
                   subst ec_
                   clear en_
                   have ea_ := Option.some.inj (hx528_2.symm.trans hx529_2)
                   injection ea_ with ea_ en_ ec_
                   subst ea_
                   subst ec_
                   clear en_
                   have p530 : 0 ≤ (0 : Int) := (by omega)
                   have q530 : 0 < (((rd_T35 l0 x11_4).f2).length : Int) := od_
                   obtain ⟨ad530, e530, hx530_0⟩ := Kd.at_int HR529_2.out 0 p530 q530
                   have hw530_0 := hx530_0
                   (try rw [show ((0 : Int)).toNat = 0 from rfl] at hw530_0)
                   (try rw [show 0 * 1 = 0 from rfl] at hw530_0)
                   (try rw [Addr.add_zero'] at hw530_0)
                   cases e530
                   have qi530 : (0 < ((rd_T35 l0 x11_4).f2).length) = True := eq_true (by omega)
                   (try rw [show ((0 : Int)).toNat = 0 from rfl] at hx530_0)
                   (try rw [Addr.add_zero'] at hx530_0)
                   replace hx530_0 := (HB.out.cell (World.block_lt_of_cell? w _ hx530_0)).trans hx530_0
                   replace p530 := eq_true p530
                   replace q530 := eq_true q530
                   have p531 : 0 ≤ (x9_3 : Int) := od_
                   have q531 : x9_3 < (t504.length : Int) := od_
                   obtain ⟨ad531, e531, hx531_0⟩ := Kd.at_int (Kd.R_reads' HO_4.out).2.2 x9_3 p531 q531
                   cases e531
                   replace p531 := eq_true p531
                   replace q531 := eq_true q531
                   refine start_ (n := 24) (S := fun w' => w'.cell? (ad528.add ((x11_4).toNat * 3)) = some (.int .i64 ((rd_T35 l0 x11_4).f0)) ∧ w'.cell? ⟨(ad528.add ((x11_4).toNat * 3)).block, (ad528.add ((x11_4).toNat * 3)).off + 1, none⟩ = some (.slice A528_1 ((rd_T35 l0 x11_4).f1).length c528_1) ∧ w'.cell? ⟨(ad528.add ((x11_4).toNat * 3)).block, (ad528.add ((x11_4).toNat * 3)).off + 2, none⟩ = some (.slice (some ad530) ((rd_T35 l0 x11_4).f2).length c528_2) ∧ w'.cell? (ad528.add ((x11_4).toNat * 3)) = some (.int .i64 ((rd_T35 l0 x11_4).f0)) ∧ w'.cell? ⟨(ad528.add ((x11_4).toNat * 3)).block, (ad528.add ((x11_4).toNat * 3)).off + 1, none⟩ = some (.slice A528_1 ((rd_T35 l0 x11_4).f1).length c528_1) ∧ w'.cell? ⟨(ad528.add ((x11_4).toNat * 3)).block, (ad528.add ((x11_4).toNat * 3)).off + 2, none⟩ = some (.slice (some ad530) ((rd_T35 l0 x11_4).f2).length c528_2) ∧ w'.cell? ad530 = some (.int .i64 (rd ((rd_T35 l0 x11_4).f2) 0)) ∧ w'.cell? (ad531.add (x9_3).toNat) = some (.int .i64 (rd t504 x9_3))) (ds := []) L6_14 (by kernel_rfl) rfl rfl ⟨((HB.out.cell (World.block_lt_of_cell? w _ hw528_0)).trans hw528_0), ((HB.out.cell (World.block_lt_of_cell? w _ hw528_1)).trans hw528_1), ((HB.out.cell (World.block_lt_of_cell? w _ hw528_2)).trans hw528_2), ((HB.out.cell (World.block_lt_of_cell? w _ hw529_0)).trans hw529_0), ((HB.out.cell (World.block_lt_of_cell? w _ hw529_1)).trans hw529_1), ((HB.out.cell (World.block_lt_of_cell? w _ hw529_2)).trans hw529_2), ((HB.out.cell (World.block_lt_of_cell? w _ hw530_0)).trans hw530_0), hx531_0⟩ (fun hHeld => ?_); refine with_tabW fullerlaw10_GraphNames.tab23 fullerlaw10_GraphNames.bits23 (fun HT_ HW_ => ?_)
                   generalize wr.drew = w59 at HO_4 HB HR528_1 HR528_2 HR529_1 HR529_2 hx528_0 hx528_1 hx528_2 hx529_0 hx529_1 hx529_2 hx530_0 hx531_0 hHeld ⊢
                   refine pu_ 0 (some 108) L6_15 HT_ ?_
                   refine pu_ 1 (some 109) L6_16 HT_ ?_
                   refine pu_ 2 (some 110) L6_20 HT_ ?_
                   refine pu_ 3 (some 111) L6_21 HT_ ?_
                   refine pu_ 4 (some 112) L6_22 HT_ ?_
                   refine pu_ 5 (some 113) L6_23 HT_ ?_
                   refine ta_ 6 (some 114) L6_24 HT_ HW_ hHeld ?_ (hy := by rintro w' ⟨s0, s1, s2, s3, s4, s5, s6, s7⟩; go_simp; with_reducible rfl)
                   refine pu_ 7 (some 115) L6_25 HT_ ?_
                   refine pu_ 8 (some 116) L6_26 HT_ ?_
                   refine pu_ 9 (some 117) L6_27 HT_ ?_
                   refine pu_ 10 (some 118) L6_28 HT_ ?_
                   refine pu_ 11 (some 119) L6_29 HT_ ?_
                   refine pu_ 12 (some 120) L6_30 HT_ ?_
                   refine pu_ 16 (some 124) L6_31 HT_ ?_
                   refine pu_ 17 (some 125) L6_32 HT_ ?_
                   refine pu_ 18 (some 126) L6_33 HT_ ?_
                   refine ta_ 13 (some 121) L6_34 HT_ HW_ hHeld ?_ (hy := by rintro w' ⟨s0, s1, s2, s3, s4, s5, s6, s7⟩; go_simp; with_reducible rfl)
                   refine pu_ 14 (some 122) L6_35 HT_ ?_
                   refine ta_ 15 (some 123) L6_36 HT_ HW_ hHeld ?_ (hy := by rintro w' ⟨s0, s1, s2, s3, s4, s5, s6, s7⟩; go_simp; with_reducible rfl)
                   refine ta_ 19 (some 127) L6_37 HT_ HW_ hHeld ?_ (hy := by rintro w' ⟨s0, s1, s2, s3, s4, s5, s6, s7⟩; go_simp; with_reducible rfl)
                   refine pu_ 20 (some 128) L6_38 HT_ ?_
                   refine pu_ 21 (some 129) L6_17 HT_ ?_
                   refine pu_ 22 (some 130) L6_18 HT_ ?_
                   refine pu_ 23 (some 10) L6_19 HT_ ?_
                   refine done_ (done_of HT_.out (by kernel_rfl)) ?_
                   try go_wp2
                   go_roundg k4
                   case measure => have := HJ2.out; have := HK2.out; have := HK3.out; have := HK4.out; omega
                   case rel => exact ⟨(((rd ((rd_T35 l0 x11_4).f2) 0) == (rd t504 x9_3))), (wrap64 (x11_4 + 1)), (by first | rfl | (simp; done) | (simp [*]; done)), (by first | rfl | (simp; done) | (simp [*]; done)), H', ⟨by have := HJ2.out; have := HK2.out; have := HK3.out; have := HK4.out; omega⟩, ⟨mvR_ HO_4.out⟩, ⟨bq0_ HB.out⟩⟩
                  ·rw [if_neg c58] at H
                   exact absurd H (by simp)
                 ·rw [if_neg c57] at H
                  exact absurd H (by simp)
                ·rw [if_neg c56] at H
                 exact absurd H (by simp)
               ·rw [if_neg c55] at H
                have c55b0 : (((rd_T35 l0 x11_4).f0) == 2) = false := beq_eq_false_iff_ne.mpr c55
                have c55b1 : (((rd_T35 l0 x11_4).f0) != 2) = true := bne_iff_ne.mpr c55
                have H' := Aside0.mk H
                clear H
                try go_wp2
                replace HO_4 := Aside0.mk (Kd.R_drew HO_4.out)
                replace HB := Aside0.mk (below_drew1 HB.out)
                have p528 : 0 ≤ (x11_4 : Int) := od_
                have q528 : x11_4 < (l0.length : Int) := od_
                obtain ⟨ad528, A528_1, c528_1, A528_2, c528_2, e528, hx528_0, hx528_1, hx528_2, hl528_1, hi528_1, hl528_2, hi528_2⟩ := at_T35 HR0.out x11_4 p528 q528
                have hw528_2 := hx528_2
                have hw528_1 := hx528_1
                have hw528_0 := hx528_0
                cases e528
                replace hx528_0 := (HB.out.cell (World.block_lt_of_cell? w _ hx528_0)).trans hx528_0
                replace hx528_1 := (HB.out.cell (World.block_lt_of_cell? w _ hx528_1)).trans hx528_1
                replace hx528_2 := (HB.out.cell (World.block_lt_of_cell? w _ hx528_2)).trans hx528_2
                have HR528_1 := Aside0.mk hi528_1
                have HC528_1 := Aside0.mk hl528_1
                clear hi528_1 hl528_1
                have HR528_2 := Aside0.mk hi528_2
                have HC528_2 := Aside0.mk hl528_2
                clear hi528_2 hl528_2
                replace p528 := eq_true p528
                replace q528 := eq_true q528
                refine start_ (n := 24) (S := fun w' => w'.cell? (ad528.add ((x11_4).toNat * 3)) = some (.int .i64 ((rd_T35 l0 x11_4).f0)) ∧ w'.cell? ⟨(ad528.add ((x11_4).toNat * 3)).block, (ad528.add ((x11_4).toNat * 3)).off + 1, none⟩ = some (.slice A528_1 ((rd_T35 l0 x11_4).f1).length c528_1) ∧ w'.cell? ⟨(ad528.add ((x11_4).toNat * 3)).block, (ad528.add ((x11_4).toNat * 3)).off + 2, none⟩ = some (.slice A528_2 ((rd_T35 l0 x11_4).f2).length c528_2)) (ds := []) L6_14 (by kernel_rfl) rfl rfl ⟨((HB.out.cell (World.block_lt_of_cell? w _ hw528_0)).trans hw528_0), ((HB.out.cell (World.block_lt_of_cell? w _ hw528_1)).trans hw528_1), ((HB.out.cell (World.block_lt_of_cell? w _ hw528_2)).trans hw528_2)⟩ (fun hHeld => ?_); refine with_tabW fullerlaw10_GraphNames.tab23 fullerlaw10_GraphNames.bits23 (fun HT_ HW_ => ?_)
                generalize wr.drew = w60 at HO_4 HB HR528_1 HR528_2 hx528_0 hx528_1 hx528_2 hHeld ⊢
                refine pu_ 0 (some 108) L6_15 HT_ ?_
                refine pu_ 1 (some 109) L6_16 HT_ ?_
                refine pu_ 2 (some 110) L6_20 HT_ ?_
                refine pu_ 3 (some 111) L6_21 HT_ ?_
                refine pu_ 4 (some 112) L6_22 HT_ ?_
                refine pu_ 5 (some 113) L6_23 HT_ ?_
                refine ta_ 6 (some 114) L6_24 HT_ HW_ hHeld ?_ (hy := by rintro w' ⟨s0, s1, s2⟩; go_simp; with_reducible rfl)
                refine pu_ 7 (some 115) L6_25 HT_ ?_
                refine pu_ 8 (some 116) L6_26 HT_ ?_
                refine skips_ (fuel := 3) (m := 15) HT_.out (fun _ _ _ _ _ h => h) [(9, 117), (10, 118), (11, 119), (12, 120), (13, 121), (14, 122), (15, 123), (16, 124), (17, 125), (18, 126), (19, 127), (20, 128)] L6_38 rfl (by kernel_rfl) (by kernel_rfl) (a' := ?_) ?_ ?_
                rotate_left
                ·simp only [putU, Act.put, sA_, sB_, sC_]
                 rfl
                refine pu_ 21 (some 129) L6_17 HT_ ?_
                refine pu_ 22 (some 130) L6_18 HT_ ?_
                refine pu_ 23 (some 10) L6_19 HT_ ?_
                refine done_ (done_of HT_.out (by kernel_rfl)) ?_
                try go_wp2
                go_roundg k4
                case measure => have := HJ2.out; have := HK2.out; have := HK3.out; have := HK4.out; omega
                case rel => exact ⟨(false), (wrap64 (x11_4 + 1)), (by first | rfl | (simp; done) | (simp [*]; done)), (by first | rfl | (simp; done) | (simp [*]; done)), H', ⟨by have := HJ2.out; have := HK2.out; have := HK3.out; have := HK4.out; omega⟩, ⟨mvR_ HO_4.out⟩, ⟨bq0_ HB.out⟩⟩
              ·rw [if_neg c54] at H
               exact absurd H (by simp)
            ·rw [if_neg c51] at H
             have c51b0 : decide (x11_4 < (l0.length : Int)) = false := decide_eq_false c51
             clear c51
             by_cases c61 : x10_4 = true
             ·subst c61
              have H1 : (if x9_3 > 0 then (if 0 ≤ x9_3 then (if x9_3 < (t504.length : Int) then (if 0 ≤ (wrap64 (x9_3 - 1)) then (if (wrap64 (x9_3 - 1)) < (t504.length : Int) then (if (rd t504 x9_3) ≤ (rd t504 (wrap64 (x9_3 - 1))) then (some false) else (fullerlaw10_GraphNames.l1 k4 l0 t501 t504 t508 x7_2 (wrap64 (x9_3 + 1)))) else (none)) else (none)) else (none)) else (none)) else (fullerlaw10_GraphNames.l1 k4 l0 t501 t504 t508 x7_2 (wrap64 (x9_3 + 1)))) = some r := by rw [if_pos rfl] at H; exact H
              clear H
              have H := H1
              clear H1
              by_cases c62 : x9_3 > 0
              ·rw [if_pos c62] at H
               have c62b0 : decide (0 < x9_3) = true := decide_eq_true c62
               clear c62
               by_cases c63 : 0 ≤ x9_3
               ·rw [if_pos c63] at H
                have c63b0 : decide (0 ≤ x9_3) = true := decide_eq_true c63
                clear c63
                by_cases c64 : x9_3 < (t504.length : Int)
                ·rw [if_pos c64] at H
                 have c64b0 : decide (x9_3 < (t504.length : Int)) = true := decide_eq_true c64
                 clear c64
                 obtain ⟨ji65, hji65⟩ : ∃ j_ : Int, (wrap64 (x9_3 - 1)) = j_ := ⟨_, rfl⟩
                 replace H : (if 0 ≤ (ji65) then (if (ji65) < (t504.length : Int) then (if (rd t504 x9_3) ≤ (rd t504 (ji65)) then (some false) else (fullerlaw10_GraphNames.l1 k4 l0 t501 t504 t508 x7_2 (wrap64 (x9_3 + 1)))) else (none)) else (none)) = some r := by first | (rw [hji65] at H; exact H) | (simp only [hji65] at H ⊢; exact H)
                 have hji65w : (IntKind.i64.wrap (x9_3 - 1)) = ji65 := (i64_w _).trans hji65
                 by_cases c66 : 0 ≤ (ji65)
                 ·rw [if_pos c66] at H
                  have c66b0 : decide (0 ≤ (ji65)) = true := decide_eq_true c66
                  clear c66
                  by_cases c67 : (ji65) < (t504.length : Int)
                  ·rw [if_pos c67] at H
                   have c67b0 : decide ((ji65) < (t504.length : Int)) = true := decide_eq_true c67
                   clear c67
                   by_cases c68 : (rd t504 x9_3) ≤ (rd t504 (ji65))
                   ·rw [if_pos c68] at H
                    have c68b0 : decide ((rd t504 x9_3) ≤ (rd t504 (ji65))) = true := decide_eq_true c68
                    clear c68
                    obtain rfl := Option.some.inj H
                    try go_wp2
                    replace HO_4 := Aside0.mk (Kd.R_drew HO_4.out)
                    replace HB := Aside0.mk (below_drew1 HB.out)
                    have p532 : 0 ≤ (x9_3 : Int) := od_
                    have q532 : x9_3 < (t504.length : Int) := od_
                    obtain ⟨ad532, e532, hx532_0⟩ := Kd.at_int (Kd.R_reads' HO_4.out).2.2 x9_3 p532 q532
                    cases e532
                    replace p532 := eq_true p532
                    replace q532 := eq_true q532
                    have p533 : 0 ≤ ((ji65) : Int) := od_
                    have q533 : (ji65) < (t504.length : Int) := od_
                    obtain ⟨ad533, e533, hx533_0⟩ := Kd.at_int (Kd.R_reads' HO_4.out).2.2 (ji65) p533 q533
                    obtain rfl : ad532 = ad533 := (by injection e533)
                    replace p533 := eq_true p533
                    replace q533 := eq_true q533
                    refine start_ (n := 18) (S := fun w' => w'.cell? (ad532.add (x9_3).toNat) = some (.int .i64 (rd t504 x9_3)) ∧ w'.cell? (ad532.add ((ji65)).toNat) = some (.int .i64 (rd t504 (ji65)))) (ds := []) L6_39 (by kernel_rfl) rfl rfl ⟨hx532_0, hx533_0⟩ (fun hHeld => ?_); refine with_tabW fullerlaw10_GraphNames.tab24 fullerlaw10_GraphNames.bits24 (fun HT_ HW_ => ?_)
                    generalize wr.drew = w69 at HO_4 HB hx532_0 hx533_0 hHeld ⊢
                    refine pu_ 0 (some 131) L6_40 HT_ ?_
                    refine pu_ 1 (some 132) L6_41 HT_ ?_
                    refine pu_ 2 (some 133) L6_42 HT_ ?_
                    refine pu_ 3 (some 134) L6_43 HT_ ?_
                    refine pu_ 4 (some 135) L6_44 HT_ ?_
                    refine pu_ 5 (some 136) L6_45 HT_ ?_
                    refine pu_ 6 (some 137) L6_46 HT_ ?_
                    refine pu_ 7 (some 138) L6_47 HT_ ?_
                    refine pu_ 8 (some 139) L6_48 HT_ ?_
                    refine pu_ 10 (some 141) L6_49 HT_ ?_
                    refine pu_ 11 (some 142) L6_50 HT_ ?_
                    refine pu_ 12 (some 143) L6_51 HT_ ?_
                    refine pu_ 13 (some 144) L6_52 HT_ ?_
                    refine ta_ 9 (some 140) L6_53 HT_ HW_ hHeld ?_ (hy := by rintro w' ⟨s0, s1⟩; go_simp; with_reducible rfl)
                    refine ta_ 14 (some 145) L6_54 HT_ HW_ hHeld ?_ (hy := by rintro w' ⟨s0, s1⟩; go_simp; with_reducible rfl)
                    refine pu_ 15 (some 146) L6_55 HT_ ?_
                    refine pu_ 16 (some 147) L6_56 HT_ ?_
                    refine pu_ 17 (some 148) L6_57 HT_ ?_
                    refine done_ (done_of HT_.out (by kernel_rfl)) ?_
                    try go_wp2
                    go_ret
                    exact ⟨by first | rfl | (simp [errW_none, errW_some] <;> rfl) | (simp only [← hji65]; first | rfl | (simp [errW_none, errW_some] <;> rfl)) | (simp [*, errW_none, errW_some] <;> rfl), bq0_ HB.out⟩
                   ·rw [if_neg c68] at H
                    have c68b0 : decide ((rd t504 x9_3) ≤ (rd t504 (ji65))) = false := decide_eq_false c68
                    clear c68
                    have H' := Aside0.mk H
                    clear H
                    try go_wp2
                    replace HO_4 := Aside0.mk (Kd.R_drew HO_4.out)
                    replace HB := Aside0.mk (below_drew1 HB.out)
                    have p532 : 0 ≤ (x9_3 : Int) := od_
                    have q532 : x9_3 < (t504.length : Int) := od_
                    obtain ⟨ad532, e532, hx532_0⟩ := Kd.at_int (Kd.R_reads' HO_4.out).2.2 x9_3 p532 q532
                    cases e532
                    replace p532 := eq_true p532
                    replace q532 := eq_true q532
                    have p533 : 0 ≤ ((ji65) : Int) := od_
                    have q533 : (ji65) < (t504.length : Int) := od_
                    obtain ⟨ad533, e533, hx533_0⟩ := Kd.at_int (Kd.R_reads' HO_4.out).2.2 (ji65) p533 q533
                    obtain rfl : ad532 = ad533 := (by injection e533)
                    replace p533 := eq_true p533
                    replace q533 := eq_true q533
                    refine start_ (n := 18) (S := fun w' => w'.cell? (ad532.add (x9_3).toNat) = some (.int .i64 (rd t504 x9_3)) ∧ w'.cell? (ad532.add ((ji65)).toNat) = some (.int .i64 (rd t504 (ji65)))) (ds := []) L6_39 (by kernel_rfl) rfl rfl ⟨hx532_0, hx533_0⟩ (fun hHeld => ?_); refine with_tabW fullerlaw10_GraphNames.tab24 fullerlaw10_GraphNames.bits24 (fun HT_ HW_ => ?_)
                    generalize wr.drew = w70 at HO_4 HB hx532_0 hx533_0 hHeld ⊢
                    refine pu_ 0 (some 131) L6_40 HT_ ?_
                    refine pu_ 1 (some 132) L6_41 HT_ ?_
                    refine pu_ 2 (some 133) L6_42 HT_ ?_
                    refine pu_ 3 (some 134) L6_43 HT_ ?_
                    refine pu_ 4 (some 135) L6_44 HT_ ?_
                    refine pu_ 5 (some 136) L6_45 HT_ ?_
                    refine pu_ 6 (some 137) L6_46 HT_ ?_
                    refine pu_ 7 (some 138) L6_47 HT_ ?_
                    refine pu_ 8 (some 139) L6_48 HT_ ?_
                    refine pu_ 10 (some 141) L6_49 HT_ ?_
                    refine pu_ 11 (some 142) L6_50 HT_ ?_
                    refine pu_ 12 (some 143) L6_51 HT_ ?_
                    refine pu_ 13 (some 144) L6_52 HT_ ?_
                    refine ta_ 9 (some 140) L6_53 HT_ HW_ hHeld ?_ (hy := by rintro w' ⟨s0, s1⟩; go_simp; with_reducible rfl)
                    refine ta_ 14 (some 145) L6_54 HT_ HW_ hHeld ?_ (hy := by rintro w' ⟨s0, s1⟩; go_simp; with_reducible rfl)
                    refine pu_ 15 (some 146) L6_55 HT_ ?_
                    refine pu_ 16 (some 147) L6_56 HT_ ?_
                    refine pu_ 17 (some 148) L6_57 HT_ ?_
                    refine done_ (done_of HT_.out (by kernel_rfl)) ?_
                    try go_wp2
                    go_roundg k4
                    case measure => have := HJ2.out; have := HK2.out; have := HK3.out; have := HK4.out; omega
                    case rel => exact ⟨(wrap64 (x9_3 + 1)), (by first | rfl | (simp; done) | (simp [*]; done)), H', ⟨by have := HJ2.out; have := HK2.out; have := HK3.out; have := HK4.out; omega⟩, ⟨mvR_ HO_4.out⟩, ⟨bq0_ HB.out⟩⟩
                  ·rw [if_neg c67] at H
                   exact absurd H (by simp)
                 ·rw [if_neg c66] at H
                  exact absurd H (by simp)
                ·rw [if_neg c64] at H
                 exact absurd H (by simp)
               ·rw [if_neg c63] at H
                exact absurd H (by simp)
              ·rw [if_neg c62] at H
               have c62b0 : decide (0 < x9_3) = false := decide_eq_false c62
               clear c62
               have H' := Aside0.mk H
               clear H
               try go_wp2
               replace HO_4 := Aside0.mk (Kd.R_drew HO_4.out)
               replace HB := Aside0.mk (below_drew1 HB.out)
               refine start_ (n := 18) (S := fun w' => True) (ds := []) L6_39 (by kernel_rfl) rfl rfl trivial (fun hHeld => ?_); refine with_tabW fullerlaw10_GraphNames.tab24 fullerlaw10_GraphNames.bits24 (fun HT_ HW_ => ?_)
               generalize wr.drew = w71 at HO_4 HB hHeld ⊢
               refine pu_ 0 (some 131) L6_40 HT_ ?_
               refine pu_ 1 (some 132) L6_41 HT_ ?_
               refine pu_ 2 (some 133) L6_42 HT_ ?_
               refine pu_ 3 (some 134) L6_43 HT_ ?_
               refine pu_ 4 (some 135) L6_44 HT_ ?_
               refine pu_ 5 (some 136) L6_45 HT_ ?_
               refine skips_ (fuel := 2) (m := 12) HT_.out (fun _ _ _ _ _ h => h) [(6, 137), (7, 138), (8, 139), (9, 140), (10, 141), (11, 142), (12, 143), (13, 144), (14, 145), (15, 146)] L6_55 rfl (by kernel_rfl) (by kernel_rfl) (a' := ?_) ?_ ?_
               rotate_left
               ·simp only [putU, Act.put, sA_, sB_, sC_]
                rfl
               refine pu_ 16 (some 147) L6_56 HT_ ?_
               refine pu_ 17 (some 148) L6_57 HT_ ?_
               refine done_ (done_of HT_.out (by kernel_rfl)) ?_
               try go_wp2
               go_roundg k4
               case measure => have := HJ2.out; have := HK2.out; have := HK3.out; have := HK4.out; omega
               case rel => exact ⟨(wrap64 (x9_3 + 1)), (by first | rfl | (simp; done) | (simp [*]; done)), H', ⟨by have := HJ2.out; have := HK2.out; have := HK3.out; have := HK4.out; omega⟩, ⟨mvR_ HO_4.out⟩, ⟨bq0_ HB.out⟩⟩
             ·replace c61 := Bool.eq_false_iff.mpr c61
              subst c61
              have H1 : (some false) = some r := by rw [if_neg (show ¬ (false = true) by decide)] at H; exact H
              clear H
              have H := H1
              clear H1
              obtain rfl := Option.some.inj H
              try go_wp2
              replace HO_4 := Aside0.mk (Kd.R_drew HO_4.out)
              replace HB := Aside0.mk (below_drew1 HB.out)
              refine start_ (n := 18) (S := fun w' => True) (ds := []) L6_39 (by kernel_rfl) rfl rfl trivial (fun hHeld => ?_); refine with_tabW fullerlaw10_GraphNames.tab24 fullerlaw10_GraphNames.bits24 (fun HT_ HW_ => ?_)
              generalize wr.drew = w72 at HO_4 HB hHeld ⊢
              refine pu_ 0 (some 131) L6_40 HT_ ?_
              refine pu_ 1 (some 132) L6_41 HT_ ?_
              refine pu_ 2 (some 133) L6_42 HT_ ?_
              refine skips_ (fuel := 1) (m := 15) HT_.out (fun _ _ _ _ _ h => h) [(3, 134), (4, 135), (5, 136), (6, 137), (7, 138), (8, 139), (9, 140), (10, 141), (11, 142), (12, 143), (13, 144), (14, 145), (15, 146), (16, 147)] L6_56 rfl (by kernel_rfl) (by kernel_rfl) (a' := ?_) ?_ ?_
              rotate_left
              ·simp only [putU, Act.put, sA_, sB_, sC_]
               rfl
              refine pu_ 17 (some 148) L6_57 HT_ ?_
              refine done_ (done_of HT_.out (by kernel_rfl)) ?_
              try go_wp2
              go_ret
              exact ⟨by first | rfl | (simp <;> rfl) | (simp [*] <;> rfl), bq0_ HB.out⟩
         ·rw [if_neg c49] at H
          have c49b0 : decide (x9_3 < (t504.length : Int)) = false := decide_eq_false c49
          clear c49
          by_cases c73 : t501 = true
          ·subst c73
           have H1 : (some (t508 == (decide (x7_2 > 0)))) = some r := by rw [if_pos rfl] at H; exact H
           clear H
           have H := H1
           clear H1
           obtain rfl := Option.some.inj H
           obtain ⟨Ao74, co74, eo74⟩ := Kd.R_slice HO_4.out
           subst eo74
           go_wp2
           go_ret
           exact ⟨by first | rfl | (simp <;> rfl) | (simp [*] <;> rfl), bq0_ HB.out⟩
          ·replace c73 := Bool.eq_false_iff.mpr c73
           subst c73
           have H1 : (some false) = some r := by rw [if_neg (show ¬ (false = true) by decide)] at H; exact H
           clear H
           have H := H1
           clear H1
           obtain rfl := Option.some.inj H
           obtain ⟨Ao75, co75, eo75⟩ := Kd.R_slice HO_4.out
           subst eo75
           go_wp2
           go_ret
           exact ⟨by first | rfl | (simp <;> rfl) | (simp [*] <;> rfl), bq0_ HB.out⟩

/-- THE ONE PURE STATEMENT of fullerlaw10_GraphNames: yours. -/
def fullerlaw10_GraphNames.Pure : Prop := ∀ (l0 : List (S35)), (l0.length * 56 ≤ 140737488351232 ∧ ∀ x_ ∈ l0, OK35 x_) → ∃ k, fullerlaw10_GraphNames.f k l0 = some true
theorem fullerlaw10_GraphNames.walk (P : fullerlaw10_GraphNames.Pure) (A0 : Option Addr) (c0 : Nat) (l0 : List (S35)) (w : World) (hr0 : Kd.C k35 w A0 l0.length l0) (hc0 : l0.length ≤ c0) (hg0 : l0.length * 56 ≤ 140737488351232 ∧ ∀ x_ ∈ l0, OK35 x_) :
  Calls Try.prog 6 #[.slice A0 l0.length c0] w fun e w' => e = .returned (.bool true) ∧ Below w.heap.size w w' := by
 obtain ⟨k, h⟩ := P l0 hg0
 refine (fullerlaw10_GraphNames.calls k _ _ l0 true w hr0 hc0 h).mono ?_
 rintro e w' ⟨rfl, hd⟩
 exact ⟨rfl, hd⟩

end Go.Proofs.Ytklnbfdoklcmfaa.A
