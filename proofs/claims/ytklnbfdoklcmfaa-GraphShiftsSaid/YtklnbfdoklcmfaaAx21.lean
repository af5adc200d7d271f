/- Lean functions that answer as the Go functions do, and the proofs that they do; no conditions. Written by this session's own driver: a scratch copy of the kit's print with the session's additions (wip/xprint). -/
import Derived.Test.YtklnbfdoklcmfaaAx0
import Derived.Test.YtklnbfdoklcmfaaAx2
import Derived.Test.YtklnbfdoklcmfaaAx3
import Derived.Test.YtklnbfdoklcmfaaAx10
import Derived.Test.YtklnbfdoklcmfaaAx11
import Derived.Test.YtklnbfdoklcmfaaAx12
namespace Go.Proofs.Ytklnbfdoklcmfaa.A
open Go.RowKit Go.Proofs.YtklnbfdoklcmfaaW.PrintWords Go.Proofs.YtklnbfdoklcmfaaW.PrintLast Go.Proofs.YtklnbfdoklcmfaaW.PrintMore
attribute [local go_sem] max2_int min2_int max_two min_two max_three min_three max_four min_four   -- for this text's walks alone
set_option linter.unusedVariables false
set_option linter.unusedSimpArgs false

def L7_0 : Array Bool := #[false, false, false, false, false, false, false, false, false, false, false, false, false]
def L7_1 : Array Bool := #[true, false, false, false, false, false, false, false, false, false, false, false, false]
def L7_2 : Array Bool := #[true, true, false, false, false, false, false, false, false, false, false, false, false]
def L7_3 : Array Bool := #[true, true, true, false, false, false, false, false, false, false, false, false, false]
def L7_4 : Array Bool := #[true, true, true, true, false, false, false, false, false, false, false, false, false]
def L7_5 : Array Bool := #[true, true, true, true, false, true, false, false, false, false, false, false, false]
def L7_6 : Array Bool := #[true, true, true, true, false, true, true, false, false, false, false, false, false]
def L7_7 : Array Bool := #[true, true, true, true, false, true, true, true, false, false, false, false, false]
def L7_8 : Array Bool := #[true, true, true, true, false, true, true, true, true, false, false, false, false]
def L7_9 : Array Bool := #[true, true, true, true, true, true, true, true, true, false, false, false, false]
def L7_10 : Array Bool := #[true, true, true, true, true, true, true, true, true, true, false, false, false]
def L7_11 : Array Bool := #[true, true, true, true, true, true, true, true, true, true, true, false, false]
def L7_12 : Array Bool := #[true, true, true, true, true, true, true, true, true, true, true, true, false]
def L7_13 : Array Bool := #[true, true, true, true, true, true, true, true, true, true, true, true, true]
def L7_14 : Array Bool := #[false, false, false, false, false, false, false, false, false, false, false, false, false, false, false, false, false]
def L7_15 : Array Bool := #[true, false, false, false, false, false, false, false, false, false, false, false, false, false, false, false, false]
def L7_16 : Array Bool := #[true, false, true, false, false, false, false, false, false, false, false, false, false, false, false, false, false]
def L7_17 : Array Bool := #[true, false, true, true, false, false, false, false, false, false, false, false, false, false, false, false, false]
def L7_18 : Array Bool := #[true, false, true, true, true, false, false, false, false, false, false, false, false, false, false, false, false]
def L7_19 : Array Bool := #[true, false, true, true, true, true, false, false, false, false, false, false, false, false, false, false, false]
def L7_20 : Array Bool := #[true, false, true, true, true, true, false, true, false, false, false, false, false, false, false, false, false]
def L7_21 : Array Bool := #[true, false, true, true, true, true, false, true, false, false, true, false, false, false, false, false, false]
def L7_22 : Array Bool := #[true, false, true, true, true, true, false, true, false, false, true, true, false, false, false, false, false]
def L7_23 : Array Bool := #[true, true, true, true, true, true, false, true, false, false, true, true, false, false, false, false, false]
def L7_24 : Array Bool := #[true, true, true, true, true, true, true, true, false, false, true, true, false, false, false, false, false]
def L7_25 : Array Bool := #[true, true, true, true, true, true, true, true, true, false, true, true, false, false, false, false, false]
def L7_26 : Array Bool := #[true, true, true, true, true, true, true, true, true, true, true, true, false, false, false, false, false]
def L7_27 : Array Bool := #[true, true, true, true, true, true, true, true, true, true, true, true, true, false, false, false, false]
def L7_28 : Array Bool := #[true, true, true, true, true, true, true, true, true, true, true, true, true, true, false, false, false]
def L7_29 : Array Bool := #[true, true, true, true, true, true, true, true, true, true, true, true, true, true, true, false, false]
def L7_30 : Array Bool := #[true, true, true, true, true, true, true, true, true, true, true, true, true, true, true, true, false]
def L7_31 : Array Bool := #[true, true, true, true, true, true, true, true, true, true, true, true, true, true, true, true, true]
def L7_32 : Array Bool := #[false, false, false, false, false, false, false, false, false, false, false, false]
def L7_33 : Array Bool := #[true, false, false, false, false, false, false, false, false, false, false, false]
def L7_34 : Array Bool := #[true, true, false, false, false, false, false, false, false, false, false, false]
def L7_35 : Array Bool := #[true, true, true, false, false, false, false, false, false, false, false, false]
def L7_36 : Array Bool := #[true, true, true, false, true, false, false, false, false, false, false, false]
def L7_37 : Array Bool := #[true, true, true, false, true, true, false, false, false, false, false, false]
def L7_38 : Array Bool := #[true, true, true, false, true, true, true, false, false, false, false, false]
def L7_39 : Array Bool := #[true, true, true, false, true, true, true, false, true, false, false, false]
def L7_40 : Array Bool := #[true, true, true, false, true, true, true, false, true, true, false, false]
def L7_41 : Array Bool := #[true, true, true, true, true, true, true, false, true, true, false, false]
def L7_42 : Array Bool := #[true, true, true, true, true, true, true, true, true, true, false, false]
def L7_43 : Array Bool := #[true, true, true, true, true, true, true, true, true, true, true, false]
def L7_44 : Array Bool := #[true, true, true, true, true, true, true, true, true, true, true, true]
theorem far3_ {w : World} {g : Nat} {q : Addr} {v a b c : Value} (hq : q.block ≠ g) (h : w.cell? q = some v) : (((w.setCell ⟨g, 0, none⟩ a).setCell ⟨g, 1, none⟩ b).setCell ⟨g, 2, none⟩ c).cell? q = some v :=
  (cell_far (p := ⟨g, 2, none⟩) hq c).trans ((cell_far (p := ⟨g, 1, none⟩) hq b).trans ((cell_far (p := ⟨g, 0, none⟩) hq a).trans h))
/-! ### fullerlaw10_GraphShifts: function 7 -/
mutual
def fullerlaw10_GraphShifts.j0 : Nat → List (S35) → Int → Bool → Bool → Option (Bool)
 | 0, _, _, _, _ => none
 | k + 1, x0, x1, x5, x22 => if x22 = true then (some x5) else ((some (([] : List (S35)) : List (S35))).bind fun y537 => (if y537.length + x0.length < 2513169434916 then (fullerlaw10_GraphShifts.l0 k x0 x1 x5 (y537 ++ x0) 0) else (none)))
def fullerlaw10_GraphShifts.l0 : Nat → List (S35) → Int → Bool → List (S35) → Int → Option (Bool)
 | 0, _, _, _, _, _ => none
 | k + 1, x0, x1, x5, x6, x7 => if x7 < (x0.length : Int) then (if 0 ≤ x7 then (fullerlaw10_GraphShifts.l1 k x0 x1 x5 x6 x7 0 ((rd_T35 x0 x7).f0) ([] : List Int) ((rd_T35 x0 x7).f2)) else (none)) else (if (x6.length : Int) > 24 then (fullerlaw10_GraphShifts.j3 k x0 x1 x5 x6 true) else (if x1 < 0 then (fullerlaw10_GraphShifts.j3 k x0 x1 x5 x6 true) else (fullerlaw10_GraphShifts.j3 k x0 x1 x5 x6 (decide (x1 ≥ (x0.length : Int))))))
def fullerlaw10_GraphShifts.l1 : Nat → List (S35) → Int → Bool → List (S35) → Int → Int → Int → List Int → List Int → Option (Bool)
 | 0, _, _, _, _, _, _, _, _, _ => none
 | k + 1, x0, x1, x5, x6, x7, x9, x546000, x546001, x546002 => if 0 ≤ x7 then (if x7 < (x0.length : Int) then (if x9 < (((rd_T35 x0 x7).f1).length : Int) then (if 0 ≤ x9 then (if x546001.length < 17592186044416 then (fullerlaw10_GraphShifts.l1 k x0 x1 x5 x6 x7 (wrap64 (x9 + 1)) x546000 (x546001 ++ [wrap64 ((rd ((rd_T35 x0 x7).f1) x9) + (x0.length : Int))]) x546002) else (none)) else (none)) else (if x6.length < 2513169434916 then (fullerlaw10_GraphShifts.l0 k x0 x1 x5 (x6 ++ [(⟨x546000, x546001, x546002⟩ : S35)]) (wrap64 (x7 + 1))) else (none))) else (none)) else (none)
def fullerlaw10_GraphShifts.j3 : Nat → List (S35) → Int → Bool → List (S35) → Bool → Option (Bool)
 | 0, _, _, _, _, _ => none
 | k + 1, x0, x1, x5, x6, x86 => if x86 = true then (if x5 = true then ((graph_Check.f x6).bind fun t555 => (some (t555 == (decide ((x6.length : Int) ≤ 24))))) else (some false)) else ((graph_Uses.f k x0 x1).bind fun t556 => ((graph_Uses.f k x6 x1).bind fun t559 => ((graph_Uses.f k x6 (wrap64 (x1 + (x0.length : Int)))).bind fun t562 => (if (t562.length : Int) = (t556.length : Int) then (fullerlaw10_GraphShifts.l2 k x0 x5 x6 t556 t559 t562 0) else (some false)))))
def fullerlaw10_GraphShifts.l2 : Nat → List (S35) → Bool → List (S35) → List Int → List Int → List Int → Int → Option (Bool)
 | 0, _, _, _, _, _, _, _ => none
 | k + 1, x0, x5, x6, x10, x11, x12, x13 => if x13 < (x10.length : Int) then (if 0 ≤ x13 then (if x13 < (x12.length : Int) then (if (rd x12 x13) = (wrap64 ((rd x10 x13) + (x0.length : Int))) then (fullerlaw10_GraphShifts.l2 k x0 x5 x6 x10 x11 x12 (wrap64 (x13 + 1))) else (some false)) else (none)) else (none)) else (if x5 = true then ((graph_Check.f x6).bind fun t567 => (if t567 = true then ((fullerref02_Same.f k x10 x11).bind fun t568 => (if t568 = true then ((graph_Live.f x6).bind fun t569 => ((graph_Live.f x0).bind fun t572 => (if (t569.length : Int) = (t572.length : Int) then ((graph_Params.f k x6).bind fun t575 => ((graph_Params.f k x0).bind fun t578 => ((fullerref02_Same.f k t575 t578).bind fun t581 => (some t581)))) else (some false)))) else (some false))) else (some false))) else (some false))
end
def fullerlaw10_GraphShifts.f (k : Nat) (l0 : List (S35)) (a1 : Int) : Option (Bool) := (fullerlaw10_awake.f k).bind fun t534 => ((fullerref10_Few.f k l0).bind fun t535 => (if t535 = true then ((graph_Check.f l0).bind fun t536 => (fullerlaw10_GraphShifts.j0 k l0 a1 t534 (!t536))) else (fullerlaw10_GraphShifts.j0 k l0 a1 t534 true)))
theorem fullerlaw10_GraphShifts.mono_l : ∀ k, (∀ y0 y1 y2 y3, LeO (fullerlaw10_GraphShifts.j0 k y0 y1 y2 y3) (fullerlaw10_GraphShifts.j0 (k + 1) y0 y1 y2 y3)) ∧ (∀ y0 y1 y2 y3 y4, LeO (fullerlaw10_GraphShifts.l0 k y0 y1 y2 y3 y4) (fullerlaw10_GraphShifts.l0 (k + 1) y0 y1 y2 y3 y4)) ∧ (∀ y0 y1 y2 y3 y4 y5 y6 y7 y8, LeO (fullerlaw10_GraphShifts.l1 k y0 y1 y2 y3 y4 y5 y6 y7 y8) (fullerlaw10_GraphShifts.l1 (k + 1) y0 y1 y2 y3 y4 y5 y6 y7 y8)) ∧ (∀ y0 y1 y2 y3 y4, LeO (fullerlaw10_GraphShifts.j3 k y0 y1 y2 y3 y4) (fullerlaw10_GraphShifts.j3 (k + 1) y0 y1 y2 y3 y4)) ∧ (∀ y0 y1 y2 y3 y4 y5 y6, LeO (fullerlaw10_GraphShifts.l2 k y0 y1 y2 y3 y4 y5 y6) (fullerlaw10_GraphShifts.l2 (k + 1) y0 y1 y2 y3 y4 y5 y6))
 | 0 => ⟨fun _ _ _ _ r h => by simp [fullerlaw10_GraphShifts.j0] at h, fun _ _ _ _ _ r h => by simp [fullerlaw10_GraphShifts.l0] at h, fun _ _ _ _ _ _ _ _ _ r h => by simp [fullerlaw10_GraphShifts.l1] at h, fun _ _ _ _ _ r h => by simp [fullerlaw10_GraphShifts.j3] at h, fun _ _ _ _ _ _ _ r h => by simp [fullerlaw10_GraphShifts.l2] at h⟩
 | k + 1 => by
  obtain ⟨ih0, ih1, ih2, ih3, ih4⟩ := fullerlaw10_GraphShifts.mono_l k
  refine ⟨?_, ?_, ?_, ?_, ?_⟩
  ·intro y0 y1 y2 y3
   unfold fullerlaw10_GraphShifts.j0
   repeat' first
   | (with_reducible exact ih0 _ _ _ _)
   | (with_reducible exact ih1 _ _ _ _ _)
   | (with_reducible exact ih2 _ _ _ _ _ _ _ _ _)
   | (with_reducible exact ih3 _ _ _ _ _)
   | (with_reducible exact ih4 _ _ _ _ _ _ _)
   | (with_reducible exact fullerlaw10_awake.mono _)
   | (with_reducible exact fullerref02_Same.mono _ _ _)
   | (with_reducible exact fullerref10_Few.mono _ _)
   | (with_reducible exact graph_Params.mono _ _)
   | (with_reducible exact graph_Uses.mono _ _ _)
   | (with_reducible exact LeO.refl _)
   | (with_reducible exact LeO.none _)
   | (with_reducible refine LeO.ite ?_ ?_)
   | (with_reducible refine LeO.bind ?_ (fun _ => ?_))
   | exact ih0 _ _ _ _
   | exact ih1 _ _ _ _ _
   | exact ih2 _ _ _ _ _ _ _ _ _
   | exact ih3 _ _ _ _ _
   | exact ih4 _ _ _ _ _ _ _
   | exact fullerlaw10_awake.mono _
   | exact fullerref02_Same.mono _ _ _
   | exact fullerref10_Few.mono _ _
   | exact graph_Params.mono _ _
   | exact graph_Uses.mono _ _ _
   | exact LeO.none _
   | refine LeO.ite ?_ ?_
   | refine LeO.bind ?_ (fun _ => ?_)
  ·intro y0 y1 y2 y3 y4
   unfold fullerlaw10_GraphShifts.l0
   repeat' first
   | (with_reducible exact ih0 _ _ _ _)
   | (with_reducible exact ih1 _ _ _ _ _)
   | (with_reducible exact ih2 _ _ _ _ _ _ _ _ _)
   | (with_reducible exact ih3 _ _ _ _ _)
   | (with_reducible exact ih4 _ _ _ _ _ _ _)
   | (with_reducible exact fullerlaw10_awake.mono _)
   | (with_reducible exact fullerref02_Same.mono _ _ _)
   | (with_reducible exact fullerref10_Few.mono _ _)
   | (with_reducible exact graph_Params.mono _ _)
   | (with_reducible exact graph_Uses.mono _ _ _)
   | (with_reducible exact LeO.refl _)
   | (with_reducible exact LeO.none _)
   | (with_reducible refine LeO.ite ?_ ?_)
   | (with_reducible refine LeO.bind ?_ (fun _ => ?_))
   | exact ih0 _ _ _ _
   | exact ih1 _ _ _ _ _
   | exact ih2 _ _ _ _ _ _ _ _ _
   | exact ih3 _ _ _ _ _
   | exact ih4 _ _ _ _ _ _ _
   | exact fullerlaw10_awake.mono _
   | exact fullerref02_Same.mono _ _ _
   | exact fullerref10_Few.mono _ _
   | exact graph_Params.mono _ _
   | exact graph_Uses.mono _ _ _
   | exact LeO.none _
   | refine LeO.ite ?_ ?_
   | refine LeO.bind ?_ (fun _ => ?_)
  ·intro y0 y1 y2 y3 y4 y5 y6 y7 y8
   unfold fullerlaw10_GraphShifts.l1
   repeat' first
   | (with_reducible exact ih0 _ _ _ _)
   | (with_reducible exact ih1 _ _ _ _ _)
   | (with_reducible exact ih2 _ _ _ _ _ _ _ _ _)
   | (with_reducible exact ih3 _ _ _ _ _)
   | (with_reducible exact ih4 _ _ _ _ _ _ _)
   | (with_reducible exact fullerlaw10_awake.mono _)
   | (with_reducible exact fullerref02_Same.mono _ _ _)
   | (with_reducible exact fullerref10_Few.mono _ _)
   | (with_reducible exact graph_Params.mono _ _)
   | (with_reducible exact graph_Uses.mono _ _ _)
   | (with_reducible exact LeO.refl _)
   | (with_reducible exact LeO.none _)
   | (with_reducible refine LeO.ite ?_ ?_)
   | (with_reducible refine LeO.bind ?_ (fun _ => ?_))
   | exact ih0 _ _ _ _
   | exact ih1 _ _ _ _ _
   | exact ih2 _ _ _ _ _ _ _ _ _
   | exact ih3 _ _ _ _ _
   | exact ih4 _ _ _ _ _ _ _
   | exact fullerlaw10_awake.mono _
   | exact fullerref02_Same.mono _ _ _
   | exact fullerref10_Few.mono _ _
   | exact graph_Params.mono _ _
   | exact graph_Uses.mono _ _ _
   | exact LeO.none _
   | refine LeO.ite ?_ ?_
   | refine LeO.bind ?_ (fun _ => ?_)
  ·intro y0 y1 y2 y3 y4
   unfold fullerlaw10_GraphShifts.j3
   repeat' first
   | (with_reducible exact ih0 _ _ _ _)
   | (with_reducible exact ih1 _ _ _ _ _)
   | (with_reducible exact ih2 _ _ _ _ _ _ _ _ _)
   | (with_reducible exact ih3 _ _ _ _ _)
   | (with_reducible exact ih4 _ _ _ _ _ _ _)
   | (with_reducible exact fullerlaw10_awake.mono _)
   | (with_reducible exact fullerref02_Same.mono _ _ _)
   | (with_reducible exact fullerref10_Few.mono _ _)
   | (with_reducible exact graph_Params.mono _ _)
   | (with_reducible exact graph_Uses.mono _ _ _)
   | (with_reducible exact LeO.refl _)
   | (with_reducible exact LeO.none _)
   | (with_reducible refine LeO.ite ?_ ?_)
   | (with_reducible refine LeO.bind ?_ (fun _ => ?_))
   | exact ih0 _ _ _ _
   | exact ih1 _ _ _ _ _
   | exact ih2 _ _ _ _ _ _ _ _ _
   | exact ih3 _ _ _ _ _
   | exact ih4 _ _ _ _ _ _ _
   | exact fullerlaw10_awake.mono _
   | exact fullerref02_Same.mono _ _ _
   | exact fullerref10_Few.mono _ _
   | exact graph_Params.mono _ _
   | exact graph_Uses.mono _ _ _
   | exact LeO.none _
   | refine LeO.ite ?_ ?_
   | refine LeO.bind ?_ (fun _ => ?_)
  ·intro y0 y1 y2 y3 y4 y5 y6
   unfold fullerlaw10_GraphShifts.l2
   repeat' first
   | (with_reducible exact ih0 _ _ _ _)
   | (with_reducible exact ih1 _ _ _ _ _)
   | (with_reducible exact ih2 _ _ _ _ _ _ _ _ _)
   | (with_reducible exact ih3 _ _ _ _ _)
   | (with_reducible exact ih4 _ _ _ _ _ _ _)
   | (with_reducible exact fullerlaw10_awake.mono _)
   | (with_reducible exact fullerref02_Same.mono _ _ _)
   | (with_reducible exact fullerref10_Few.mono _ _)
   | (with_reducible exact graph_Params.mono _ _)
   | (with_reducible exact graph_Uses.mono _ _ _)
   | (with_reducible exact LeO.refl _)
   | (with_reducible exact LeO.none _)
   | (with_reducible refine LeO.ite ?_ ?_)
   | (with_reducible refine LeO.bind ?_ (fun _ => ?_))
   | exact ih0 _ _ _ _
   | exact ih1 _ _ _ _ _
   | exact ih2 _ _ _ _ _ _ _ _ _
   | exact ih3 _ _ _ _ _
   | exact ih4 _ _ _ _ _ _ _
   | exact fullerlaw10_awake.mono _
   | exact fullerref02_Same.mono _ _ _
   | exact fullerref10_Few.mono _ _
   | exact graph_Params.mono _ _
   | exact graph_Uses.mono _ _ _
   | exact LeO.none _
   | refine LeO.ite ?_ ?_
   | refine LeO.bind ?_ (fun _ => ?_)
theorem fullerlaw10_GraphShifts.mono : ∀ a0 a1 k, LeO (fullerlaw10_GraphShifts.f k a0 a1) (fullerlaw10_GraphShifts.f (k + 1) a0 a1) := by
 intro a0 a1 k
 obtain ⟨ih0, ih1, ih2, ih3, ih4⟩ := fullerlaw10_GraphShifts.mono_l k
 unfold fullerlaw10_GraphShifts.f
 repeat' first
   | (with_reducible exact ih0 _ _ _ _)
   | (with_reducible exact ih1 _ _ _ _ _)
   | (with_reducible exact ih2 _ _ _ _ _ _ _ _ _)
   | (with_reducible exact ih3 _ _ _ _ _)
   | (with_reducible exact ih4 _ _ _ _ _ _ _)
   | (with_reducible exact fullerlaw10_awake.mono _)
   | (with_reducible exact fullerref02_Same.mono _ _ _)
   | (with_reducible exact fullerref10_Few.mono _ _)
   | (with_reducible exact graph_Params.mono _ _)
   | (with_reducible exact graph_Uses.mono _ _ _)
   | (with_reducible exact LeO.refl _)
   | (with_reducible exact LeO.none _)
   | (with_reducible refine LeO.ite ?_ ?_)
   | (with_reducible refine LeO.bind ?_ (fun _ => ?_))
   | exact ih0 _ _ _ _
   | exact ih1 _ _ _ _ _
   | exact ih2 _ _ _ _ _ _ _ _ _
   | exact ih3 _ _ _ _ _
   | exact ih4 _ _ _ _ _ _ _
   | exact fullerlaw10_awake.mono _
   | exact fullerref02_Same.mono _ _ _
   | exact fullerref10_Few.mono _ _
   | exact graph_Params.mono _ _
   | exact graph_Uses.mono _ _ _
   | exact LeO.none _
   | refine LeO.ite ?_ ?_
   | refine LeO.bind ?_ (fun _ => ?_)
def fullerlaw10_GraphShifts.T8 : Bool × List (List Nat × List Nat) := (true, [([], []), ([], []), ([0, 1], [0, 1]), ([2], [2]), ([3], [3]), ([], []), ([], []), ([5, 6], [5, 6]), ([7], [7]), ([8], [8]), ([4, 9], [4, 9]), ([], []), ([11, 10, 0, 1, 2, 3, 4, 5, 6, 7, 8, 9, 10, 11], [10, 11])])
def fullerlaw10_GraphShifts.B8 : List Nat := [0, 0, 3, 7, 15, 0, 0, 96, 224, 480, 1023, 0, 4095]
theorem fullerlaw10_GraphShifts.tab8 : rtab .any (opsOf Try.f7 8) = fullerlaw10_GraphShifts.T8 := by kernel_rfl
theorem fullerlaw10_GraphShifts.bits8 : waitsOk fullerlaw10_GraphShifts.T8.2 fullerlaw10_GraphShifts.B8 = true := by kernel_rfl
def fullerlaw10_GraphShifts.T12 : Bool × List (List Nat × List Nat) := (true, [([], []), ([0], [0]), ([], []), ([], []), ([2, 3], [2, 3]), ([4], [4]), ([5], [5]), ([], []), ([6, 7], [6, 7]), ([8], [8]), ([], []), ([10], [10]), ([9, 11], [9, 11]), ([12], [12]), ([1, 13], [1, 13]), ([0, 1, 2, 3, 4, 5, 6, 7, 8, 9, 10, 11, 12, 13, 14], []), ([15, 14, 14, 0, 1, 2, 3, 4, 5, 6, 7, 8, 9, 10, 11, 12, 13, 14], [14, 15])])
def fullerlaw10_GraphShifts.B12 : List Nat := [0, 1, 0, 0, 12, 28, 60, 0, 252, 508, 0, 1024, 4092, 8188, 16383, 32767, 65535]
theorem fullerlaw10_GraphShifts.tab12 : rtab .any (opsOf Try.f7 12) = fullerlaw10_GraphShifts.T12 := by kernel_rfl
theorem fullerlaw10_GraphShifts.bits12 : waitsOk fullerlaw10_GraphShifts.T12.2 fullerlaw10_GraphShifts.B12 = true := by kernel_rfl
def fullerlaw10_GraphShifts.T24 : Bool × List (List Nat × List Nat) := (true, [([], []), ([], []), ([0, 1], [0, 1]), ([2], [2]), ([], []), ([], []), ([4, 5], [4, 5]), ([6], [6]), ([], []), ([8], [8]), ([7, 9], [7, 9]), ([3, 10], [3, 10])])
def fullerlaw10_GraphShifts.B24 : List Nat := [0, 0, 3, 7, 0, 0, 48, 112, 0, 256, 1008, 2047]
theorem fullerlaw10_GraphShifts.tab24 : rtab .any (opsOf Try.f7 24) = fullerlaw10_GraphShifts.T24 := by kernel_rfl
theorem fullerlaw10_GraphShifts.bits24 : waitsOk fullerlaw10_GraphShifts.T24.2 fullerlaw10_GraphShifts.B24 = true := by kernel_rfl
set_option maxHeartbeats 8000000 in
set_option maxRecDepth 100000 in
theorem fullerlaw10_GraphShifts.calls (k : Nat) (P0_ : Nat → Prop) (A0 : Option Addr) (c0 : Nat) (l0 : List (S35)) (a1 : Int) (r : Bool) (w : World) (hs0 : Kd.V k35 35 w w.heap.size (fun k_ => P0_ k_) (.slice A0 l0.length c0) l0) (h : fullerlaw10_GraphShifts.f k l0 a1 = some r) :
  Calls Try.prog 7 #[.slice A0 l0.length c0, .int .i64 a1] w fun e w' => e = .returned (.bool r) ∧ Below w.heap.size w w' := by
 have hu35 := Try.underlying35
 have HO0 := Aside0.mk (show Kd.V k35 35 w w.heap.size (fun k_ => (P0_ k_ ∨ w.heap.size ≤ k_)) (.slice A0 l0.length c0) l0 from Kd.V_mono hs0 (fun k_ hk => .inl hk))
 have HCW := Aside0.mk (Kd.V_reads' hs0).2.2
 have HB := Aside0.mk (Below.refl w.heap.size w)
 have H : ((fullerlaw10_awake.f k).bind fun t534 => ((fullerref10_Few.f k l0).bind fun t535 => (if t535 = true then ((graph_Check.f l0).bind fun t536 => (fullerlaw10_GraphShifts.j0 k l0 a1 t534 (!t536))) else (fullerlaw10_GraphShifts.j0 k l0 a1 t534 true)))) = some r := h
 clear h
 replace H := Option.bind_eq_some_iff.mp H
 obtain ⟨t534, A30, H⟩ := H
 replace H : ((fullerref10_Few.f k l0).bind fun t535 => (if t535 = true then ((graph_Check.f l0).bind fun t536 => (fullerlaw10_GraphShifts.j0 k l0 a1 t534 (!t536))) else (fullerlaw10_GraphShifts.j0 k l0 a1 t534 true))) = some r := H
 have A3 := Aside0.mk A30
 clear A30
 have HC4 := Aside0.mk H
 clear H
 go_enter Try.func7, Try.ntmps7
 go_upto_region 2 with (first | ((with_reducible refine gate_callee (f := 9) rfl ?_); refine gL_ (some 14) Try.func9 #[] ?_; (with_reducible refine (fullerlaw10_awake.calls k  t534 _ A3.out).mono ?_); rintro e w5 ⟨rfl, hb⟩; refine ⟨_, rfl, ?_⟩; replace HO0 := Aside0.mk (Kd.V_below (mvV_ HO0.out) hb); replace HB := Aside0.mk (below_step (bq0_ HB.out) hb); (try clear hb)))
 (try simp only [Act.put, sA_, sB_, sC_])
 go_cut [22] (fun v22 wc => ∃ (kq : Nat) (x22_3 : Bool), v22 = .bool x22_3 ∧ Aside0 (fullerlaw10_GraphShifts.j0 kq l0 a1 t534 x22_3 = some r) ∧ Aside0 (kq ≤ k) ∧ Aside0 (Kd.V k35 35 wc w.heap.size (fun k_ => (P0_ k_ ∨ w.heap.size ≤ k_)) (.slice A0 l0.length c0) l0) ∧ Aside0 (Below w.heap.size w wc))
 case first =>
  have H := HC4.out
  clear HC4
  replace H := Option.bind_eq_some_iff.mp H
  obtain ⟨t535, A60, H⟩ := H
  replace H : (if t535 = true then ((graph_Check.f l0).bind fun t536 => (fullerlaw10_GraphShifts.j0 k l0 a1 t534 (!t536))) else (fullerlaw10_GraphShifts.j0 k l0 a1 t534 true)) = some r := H
  have A6 := Aside0.mk A60
  clear A60
  by_cases c7 : t535 = true
  ·subst c7
   have H1 : ((graph_Check.f l0).bind fun t536 => (fullerlaw10_GraphShifts.j0 k l0 a1 t534 (!t536))) = some r := by rw [if_pos rfl] at H; exact H
   clear H
   have H := H1
   clear H1
   replace H := Option.bind_eq_some_iff.mp H
   obtain ⟨t536, A80, H⟩ := H
   replace H : (fullerlaw10_GraphShifts.j0 k l0 a1 t534 (!t536)) = some r := H
   have A8 := Aside0.mk A80
   clear A80
   have H' := Aside0.mk H
   clear H
   go_wp2_with (first | ((with_reducible refine gate_callee (f := 10) rfl ?_); refine gL_ (some 16) Try.func10 #[.slice A0 l0.length c0] ?_; (with_reducible refine (fullerref10_Few.calls k _ _ l0 true _ ?side1 ?side2 A6.out).mono ?_); (case side1 => exact mvC_ ((Kd.V_reads' HO0.out).2.2)); (case side2 => exact (Kd.V_reads' HO0.out).2.1); rintro e w' ⟨rfl, ⟨nd, rfl⟩⟩; refine ⟨_, rfl, ?_⟩) | (go_at_call 13; (with_reducible refine (graph_Check.calls _ _ l0 t536 _ ?side1 ?side2 A8.out).mono ?_); (case side1 => exact mvC_ ((Kd.V_reads' HO0.out).2.2)); (case side2 => exact (Kd.V_reads' HO0.out).2.1); rintro e w9 ⟨rfl, hb⟩; replace HO0 := Aside0.mk (Kd.V_below (mvV_ HO0.out) hb); replace HB := Aside0.mk (below_step (bq0_ HB.out) hb); (try clear hb)))
   go_meet
   case rel => exact ⟨_, (!t536), (by first | rfl | (simp; done) | (simp [*]; done)), H', ⟨by first | omega | exact Nat.le_refl _⟩, ⟨mvV_ HO0.out⟩, ⟨bq0_ HB.out⟩⟩
  ·replace c7 := Bool.eq_false_iff.mpr c7
   subst c7
   have H1 : (fullerlaw10_GraphShifts.j0 k l0 a1 t534 true) = some r := by rw [if_neg (show ¬ (false = true) by decide)] at H; exact H
   clear H
   have H := H1
   clear H1
   have H' := Aside0.mk H
   clear H
   go_wp2_with (first | ((with_reducible refine gate_callee (f := 10) rfl ?_); refine gL_ (some 16) Try.func10 #[.slice A0 l0.length c0] ?_; (with_reducible refine (fullerref10_Few.calls k _ _ l0 false _ ?side1 ?side2 A6.out).mono ?_); (case side1 => exact mvC_ ((Kd.V_reads' HO0.out).2.2)); (case side2 => exact (Kd.V_reads' HO0.out).2.1); rintro e w' ⟨rfl, ⟨nd, rfl⟩⟩; refine ⟨_, rfl, ?_⟩))
   go_meet
   case rel => exact ⟨_, (true), (by first | rfl | (simp; done) | (simp [*]; done)), H', ⟨by first | omega | exact Nat.le_refl _⟩, ⟨mvV_ HO0.out⟩, ⟨bq0_ HB.out⟩⟩
 case rest =>
  clear HC4
  try clear c1
  try clear p2
  try clear c7
  try clear c9
  obtain ⟨kq, x22_3, rfl, HA, HJ3, HO_0, HB⟩ := hcut
  cases kq with
  | zero => exact absurd HA.out (by simp [fullerlaw10_GraphShifts.j0])
  | succ kj3 =>
   have H := HA.out
   clear HA
   simp only [fullerlaw10_GraphShifts.j0] at H
   by_cases c10 : x22_3 = true
   ·subst c10
    have H1 : (some t534) = some r := by rw [if_pos rfl] at H; exact H
    clear H
    have H := H1
    clear H1
    obtain rfl := Option.some.inj H
    go_wp2
    go_ret
    exact ⟨by first | rfl | (simp <;> rfl) | (simp [*] <;> rfl), bq0_ HB.out⟩
   ·replace c10 := Bool.eq_false_iff.mpr c10
    subst c10
    have H1 : ((some (([] : List (S35)) : List (S35))).bind fun y537 => (if y537.length + l0.length < 2513169434916 then (fullerlaw10_GraphShifts.l0 kj3 l0 a1 t534 (y537 ++ l0) 0) else (none))) = some r := by rw [if_neg (show ¬ (false = true) by decide)] at H; exact H
    clear H
    have H := H1
    clear H1
    obtain ⟨y537, hy537⟩ : ∃ y_ : List (S35), y_ = (([] : List (S35))) := ⟨_, rfl⟩
    replace H : (if y537.length + l0.length < 2513169434916 then (fullerlaw10_GraphShifts.l0 kj3 l0 a1 t534 (y537 ++ l0) 0) else (none)) = some r := by first | (rw [hy537]; with_reducible exact H) | (have H2_ := (Option.bind_some _ _).symm.trans H; rw [hy537]; with_reducible exact H2_) | (have H2_ := (Option.bind_some _ _).symm.trans H; with_reducible exact H2_) | with_reducible exact H | (rw [hy537]; exact H) | exact H
    have Ny537 := Aside0.mk hy537
    clear hy537
    by_cases c11 : y537.length + l0.length < 2513169434916
    ·rw [if_pos c11] at H
     have LMc11 := Aside0.mk c11
     clear c11
     obtain ⟨y540, hy540⟩ : ∃ y_ : List (S35), y_ = (y537 ++ l0) := ⟨_, rfl⟩
     replace H : (fullerlaw10_GraphShifts.l0 kj3 l0 a1 t534 y540 0) = some r := by first | (rw [hy540]; with_reducible exact H) | (have H2_ := (Option.bind_some _ _).symm.trans H; rw [hy540]; with_reducible exact H2_) | (have H2_ := (Option.bind_some _ _).symm.trans H; with_reducible exact H2_) | with_reducible exact H | (rw [hy540]; exact H) | exact H
     have Ny540 := Aside0.mk hy540
     clear hy540
     have H' := Aside0.mk H
     clear H
     go_wp2_with (first | ((with_reducible refine gate_dst (N := 24) rfl ?_); (try (refine gate_guard (by rfl) ?_; dsimp only)); refine Kd.N_lit k35 _ 35 ?hg (N' := 24) ?hd (xs := ([] : List (S35))) (inner := []) (ok := (fun k_ => (P0_ k_ ∨ w.heap.size ≤ k_))) (okp := (fun k_ => (P0_ k_ ∨ w.heap.size ≤ k_))) ?hr ?hp (fun _ hk => hk) ((show ∀ k_, wc.heap.size ≤ k_ → (fun k_ => (P0_ k_ ∨ w.heap.size ≤ k_)) k_ from fun k_ hk => (.inr (Nat.le_trans (below_size (bq0_ HB.out)) hk))) _ (Nat.le_refl _)) (Below.refl _ _) (Nat.le_refl _) (by simp) ?_; (case hd => rfl); (case hg => rfl); (case hr => first | (go_simp; done) | (go_simp; rfl)); (case hp => exact (Reps.none _ _)); intro v538 w12 ho13 hb hg_ hnew_; clear hg_ hnew_; (first | rw [← Ny537.out] at ho13 | (simp only [Int.reduceToNat] at ho13; rw [← Ny537.out] at ho13)); have HO539 := Aside0.mk (Kd.N_lower ho13 (below_size (bq0_ HB.out))); replace HO_0 := Aside0.mk (Kd.V_elder' (mvV_ HO_0.out) (Kd.N_base ho13) hb); replace HB := Aside0.mk (below_step (bq0_ HB.out) hb); clear hb ho13) | ((with_reducible refine gate_builtin (b := .append) (xs := #[.tmp 24, .tmp 25]) rfl ?_); (try (refine gate_guard (by rfl) ?_; dsimp only)); at_builtin; refine Kd.N_append_rows k35 (w0 := w) w.heap.size rfl (.tmp 24) (.tmp 25) 22 35 (.agg #[(.int .i64 0), (.slice none 0 0), (.slice none 0 0)]) 56 rfl Try.underlying22 info35 rfl (by decide) (by omega) v538 y537 l0 _ _ _ (fun k_ => (P0_ k_ ∨ w.heap.size ≤ k_)) (fun k_ => ((fun k_ => (P0_ k_ ∨ w.heap.size ≤ k_))) k_ ∧ some k_ ≠ (v538 : Value).ownBlock) rfl rfl ?aO ?aR (fun _ hk => hk) ?aF ?aB ?aS ?aL ?_; (case aR => exact (by skip; exact Kd.V_F (Kd.V_mono (ok' := (fun k_ => ((fun k_ => (P0_ k_ ∨ w.heap.size ≤ k_))) k_ ∧ some k_ ≠ (v538 : Value).ownBlock)) (HO_0.out) (fun k_ hk => ⟨hk.1, hk.2⟩)))); (case aB => exact (bq0_ HB.out)); (case aF => exact (fun k_ hk => (.inr (Nat.le_trans (below_size (bq0_ HB.out)) hk)))); (case aO => exact (mvN_ HO539.out)); (case aS => exact (below_size (bq0_ HB.out))); (case aL => have := LMc11.out; omega); intro v541 w14 ho hb hg hat; rw [← Ny540.out] at ho; have HO542 := Aside0.mk (ho); replace HO_0 := Aside0.mk (Kd.V_afterv (ok := (fun k_ => (P0_ k_ ∨ w.heap.size ≤ k_))) (mvV_ HO_0.out) hg hat); replace HB := Aside0.mk (hb); clear HO539 ho hb hg hat))
     go_loopg [6, 7] kj3 (fun kq v6 v7 w' => ∃ (x6_2 : List (S35)) (x7_2 : Int), v7 = .int .i64 x7_2 ∧ Aside0 (fullerlaw10_GraphShifts.l0 kq l0 a1 t534 x6_2 x7_2 = some r) ∧ Aside0 (kq ≤ kj3) ∧ Aside0 (Kd.V k35 35 w' w.heap.size (fun k_ => (P0_ k_ ∨ w.heap.size ≤ k_) ∧ some k_ ≠ (v6 : Value).ownBlock) (.slice A0 l0.length c0) l0) ∧ Aside0 (Kd.N k35 35 w' w.heap.size (fun k_ => (P0_ k_ ∨ w.heap.size ≤ k_)) v6 x6_2) ∧ Aside0 (Below w.heap.size w w'))
     case atStart => exact ⟨(y540), (0), (by first | rfl | (simp; done) | (simp [*]; done)), H', ⟨Nat.le_refl _⟩, ⟨mvV_ HO_0.out⟩, ⟨mvN_ HO542.out⟩, ⟨bq0_ HB.out⟩⟩
     case round =>
      clear H'
      try clear c1
      try clear p2
      try clear c7
      try clear c9
      try clear c10
      try clear c11
      try clear p2
      obtain ⟨x6_2, x7_2, rfl, HA, HK2, HO_0, HO_6, HB⟩ := hrel
      cases gk with
      | zero => exact absurd HA.out (by simp [fullerlaw10_GraphShifts.l0])
      | succ k2 =>
       have H := HA.out
       clear HA
       simp only [fullerlaw10_GraphShifts.l0] at H
       by_cases c15 : x7_2 < (l0.length : Int)
       ·rw [if_pos c15] at H
        have c15b0 : decide (x7_2 < (l0.length : Int)) = true := decide_eq_true c15
        clear c15
        by_cases c16 : 0 ≤ x7_2
        ·rw [if_pos c16] at H
         have c16b0 : decide (0 ≤ x7_2) = true := decide_eq_true c16
         clear c16
         have H' := Aside0.mk H
         clear H
         try go_wp2
         replace HO_0 := Aside0.mk (Kd.V_drew HO_0.out)
         replace HO_6 := Aside0.mk (Kd.N_drew HO_6.out)
         replace HB := Aside0.mk (below_drew1 HB.out)
         have p543 : 0 ≤ (x7_2 : Int) := od_
         have q543 : x7_2 < (l0.length : Int) := od_
         obtain ⟨ad543, A543_1, c543_1, A543_2, c543_2, e543, hx543_0, hx543_1, hx543_2, hl543_1, hi543_1, hl543_2, hi543_2⟩ := at_T35 (Kd.V_reads' HO_0.out).2.2 x7_2 p543 q543
         cases e543
         obtain ⟨ce543, hce543, hMe543, hcc543⟩ := Kd.V_get HO_0.out z35 x7_2 p543 (by first | exact q543 | exact od_ | (have e_ := (Kd.V_reads' HO_0.out).1; omega))
         obtain ⟨ua543_1, uc543_1, ua543_2, uc543_2, rfl, ul543_1, ge543_1, ul543_2, ge543_2⟩ := k35_openF hMe543
         have hv543_1 := hcc543 1 _ rfl
         rw [add_field _ _ 1 (by omega)] at hv543_1
         replace hv543_1 := Option.some.inj (hv543_1.symm.trans hx543_1)
         injection hv543_1 with hva_ hvn_ hvc_
         rw [hva_] at ge543_1
         rw [hvc_] at ul543_1
         have HL543_1 := Aside0.mk (show Kd.V (Kd.int .i64) 3 _ w.heap.size _ _ ((rd_T35 l0 x7_2).f1) from Kd.V_mk ul543_1 ge543_1)
         clear hva_ hvn_ hvc_ ge543_1 ul543_1
         have hv543_2 := hcc543 2 _ rfl
         rw [add_field _ _ 2 (by omega)] at hv543_2
         replace hv543_2 := Option.some.inj (hv543_2.symm.trans hx543_2)
         injection hv543_2 with hva_ hvn_ hvc_
         rw [hva_] at ge543_2
         rw [hvc_] at ul543_2
         have HL543_2 := Aside0.mk (show Kd.V (Kd.int .i64) 3 _ w.heap.size _ _ ((rd_T35 l0 x7_2).f2) from Kd.V_mk ul543_2 ge543_2)
         clear hva_ hvn_ hvc_ ge543_2 ul543_2 hcc543 hce543
         have HR543_1 := Aside0.mk hi543_1
         have HC543_1 := Aside0.mk hl543_1
         clear hi543_1 hl543_1
         have HR543_2 := Aside0.mk hi543_2
         have HC543_2 := Aside0.mk hl543_2
         clear hi543_2 hl543_2
         have HXW : Aside0 (w.cell? ⟨(ad543.add ((x7_2).toNat * 3)).block, (ad543.add ((x7_2).toNat * 3)).off + 2, none⟩ = some (.slice A543_2 ((rd_T35 l0 x7_2).f2).length c543_2)) := ⟨by
          obtain ⟨ad_, A1_, c1_, A2_, c2_, eA_, _, _, h2_, _⟩ := at_T35 HCW.out x7_2 p543 q543
          cases eA_
          have h3_ := pw_cell_below HB.out h2_
          exact h2_.trans (h3_.symm.trans hx543_2)⟩
         replace p543 := eq_true p543
         replace q543 := eq_true q543
         have p544 : 0 ≤ (x7_2 : Int) := od_
         have q544 : x7_2 < (l0.length : Int) := od_
         obtain ⟨ad544, A544_1, c544_1, A544_2, c544_2, e544, hx544_0, hx544_1, hx544_2, hl544_1, hi544_1, hl544_2, hi544_2⟩ := at_T35 (Kd.V_reads' HO_0.out).2.2 x7_2 p544 q544
         obtain rfl : ad543 = ad544 := (by injection e544)
         obtain ⟨ce544, hce544, hMe544, hcc544⟩ := Kd.V_get HO_0.out z35 x7_2 p544 (by first | exact q544 | exact od_ | (have e_ := (Kd.V_reads' HO_0.out).1; omega))
         obtain ⟨ua544_1, uc544_1, ua544_2, uc544_2, rfl, ul544_1, ge544_1, ul544_2, ge544_2⟩ := k35_openF hMe544
         have hv544_1 := hcc544 1 _ rfl
         rw [add_field _ _ 1 (by omega)] at hv544_1
         replace hv544_1 := Option.some.inj (hv544_1.symm.trans hx544_1)
         injection hv544_1 with hva_ hvn_ hvc_
         rw [hva_] at ge544_1
         rw [hvc_] at ul544_1
         have HL544_1 := Aside0.mk (show Kd.V (Kd.int .i64) 3 _ w.heap.size _ _ ((rd_T35 l0 x7_2).f1) from Kd.V_mk ul544_1 ge544_1)
         clear hva_ hvn_ hvc_ ge544_1 ul544_1
         have hv544_2 := hcc544 2 _ rfl
         rw [add_field _ _ 2 (by omega)] at hv544_2
         replace hv544_2 := Option.some.inj (hv544_2.symm.trans hx544_2)
         injection hv544_2 with hva_ hvn_ hvc_
         rw [hva_] at ge544_2
         rw [hvc_] at ul544_2
         have HL544_2 := Aside0.mk (show Kd.V (Kd.int .i64) 3 _ w.heap.size _ _ ((rd_T35 l0 x7_2).f2) from Kd.V_mk ul544_2 ge544_2)
         clear hva_ hvn_ hvc_ ge544_2 ul544_2 hcc544 hce544
         have HR544_1 := Aside0.mk hi544_1
         have HC544_1 := Aside0.mk hl544_1
         clear hi544_1 hl544_1
         have HR544_2 := Aside0.mk hi544_2
         have HC544_2 := Aside0.mk hl544_2
         clear hi544_2 hl544_2
         replace p544 := eq_true p544
         replace q544 := eq_true q544
         have ea_ := Option.some.inj (hx543_1.symm.trans hx544_1)
         injection ea_ with ea_ en_ ec_
         subst ea_
         subst ec_
         clear en_
         have ea_ := Option.some.inj (hx543_2.symm.trans hx544_2)
         injection ea_ with ea_ en_ ec_
         subst ea_
         subst ec_
         clear en_
         refine start_ (n := 13) (S := fun w' => w'.cell? (ad543.add ((x7_2).toNat * 3)) = some (.int .i64 ((rd_T35 l0 x7_2).f0)) ∧ w'.cell? ⟨(ad543.add ((x7_2).toNat * 3)).block, (ad543.add ((x7_2).toNat * 3)).off + 1, none⟩ = some (.slice A543_1 ((rd_T35 l0 x7_2).f1).length c543_1) ∧ w'.cell? ⟨(ad543.add ((x7_2).toNat * 3)).block, (ad543.add ((x7_2).toNat * 3)).off + 2, none⟩ = some (.slice A543_2 ((rd_T35 l0 x7_2).f2).length c543_2) ∧ w'.cell? (ad543.add ((x7_2).toNat * 3)) = some (.int .i64 ((rd_T35 l0 x7_2).f0)) ∧ w'.cell? ⟨(ad543.add ((x7_2).toNat * 3)).block, (ad543.add ((x7_2).toNat * 3)).off + 1, none⟩ = some (.slice A543_1 ((rd_T35 l0 x7_2).f1).length c543_1) ∧ w'.cell? ⟨(ad543.add ((x7_2).toNat * 3)).block, (ad543.add ((x7_2).toNat * 3)).off + 2, none⟩ = some (.slice A543_2 ((rd_T35 l0 x7_2).f2).length c543_2)) (ds := []) L7_0 (by kernel_rfl) rfl rfl ⟨hx543_0, hx543_1, hx543_2, hx544_0, hx544_1, hx544_2⟩ (fun hHeld => ?_); refine with_tabW fullerlaw10_GraphShifts.tab8 fullerlaw10_GraphShifts.bits8 (fun HT_ HW_ => ?_)
         generalize wr.drew = w17 at HO_0 HO_6 HB HL543_1 HL543_2 HL544_1 HL544_2 HR543_1 HR543_2 HR544_1 HR544_2 hx543_0 hx543_1 hx543_2 hx544_0 hx544_1 hx544_2 hHeld ⊢
         refine pu_ 0 (some 33) L7_1 HT_ ?_
         refine pu_ 1 (some 34) L7_2 HT_ ?_
         refine pu_ 2 (some 35) L7_3 HT_ ?_
         refine pu_ 3 (some 36) L7_4 HT_ ?_
         refine pu_ 5 (some 38) L7_5 HT_ ?_
         refine pu_ 6 (some 39) L7_6 HT_ ?_
         refine pu_ 7 (some 40) L7_7 HT_ ?_
         refine pu_ 8 (some 41) L7_8 HT_ ?_
         refine ta_ 4 (some 37) L7_9 HT_ HW_ hHeld ?_ (hy := by rintro w' ⟨s0, s1, s2, s3, s4, s5⟩; go_simp; with_reducible rfl)
         refine ta_ 9 (some 42) L7_10 HT_ HW_ hHeld ?_ (hy := by rintro w' ⟨s0, s1, s2, s3, s4, s5⟩; go_simp; with_reducible rfl)
         refine pu_ 10 (some 43) L7_11 HT_ ?_
         refine one_ (i := 11) (N := some 8) L7_12 rfl rfl (one_of HT_.out (by kernel_rfl)) (by decide) (fun K hK => ?_)
         refine box_step ?hg (N := 8) ?hd (cs := #[.int .i64 0, .slice none 0 0, .slice none 0 0]) (t := 35) ?hr ?_; (case hd => rfl); (case hg => rfl); (case hr => first | (go_simp; done) | (go_simp; rfl))
         intro gb545 hg w18 hbox hb
         have HS0_ := (hb.cell (World.block_lt_of_cell? _ _ (hHeld.1))).trans (hHeld.1)
         have HS1_ := (hb.cell (World.block_lt_of_cell? _ _ (hHeld.2.1))).trans (hHeld.2.1)
         have HS2_ := (hb.cell (World.block_lt_of_cell? _ _ (hHeld.2.2.1))).trans (hHeld.2.2.1)
         have HS3_ := (hb.cell (World.block_lt_of_cell? _ _ (hHeld.2.2.2.1))).trans (hHeld.2.2.2.1)
         have HS4_ := (hb.cell (World.block_lt_of_cell? _ _ (hHeld.2.2.2.2.1))).trans (hHeld.2.2.2.2.1)
         have HS5_ := (hb.cell (World.block_lt_of_cell? _ _ (hHeld.2.2.2.2.2))).trans (hHeld.2.2.2.2.2)
         have n0_ := Aside0.mk (Kd.V_below (Kd.V_elderB (mvV_ HO_0.out) gb545 (Nat.le_of_eq hg.symm)) hb)
         have n1_ := Aside0.mk (Kd.N_below (Kd.N_elderB (mvN_ HO_6.out) gb545 (Nat.le_of_eq hg.symm)) hb)
         have n2_ := Aside0.mk (Kd.V_below (Kd.V_elderB (mvV_ HL543_1.out) gb545 (Nat.le_of_eq hg.symm)) hb)
         have n3_ := Aside0.mk (Kd.V_below (Kd.V_elderB (mvV_ HL543_2.out) gb545 (Nat.le_of_eq hg.symm)) hb)
         have n4_ := Aside0.mk (Kd.V_below (Kd.V_elderB (mvV_ HL544_1.out) gb545 (Nat.le_of_eq hg.symm)) hb)
         have n5_ := Aside0.mk (Kd.V_below (Kd.V_elderB (mvV_ HL544_2.out) gb545 (Nat.le_of_eq hg.symm)) hb)
         have n6_ := Aside0.mk (Kd.C_below (by repeat (first | (with_reducible exact HR543_1.out) | (with_reducible refine Kd.C_alloc ?_ _) | (with_reducible refine Kd.C_drewN ?_ _) | (with_reducible refine Kd.C_drew ?_) | exact HR543_1.out)) hb)
         have n7_ := Aside0.mk (Kd.C_below (by repeat (first | (with_reducible exact HR543_2.out) | (with_reducible refine Kd.C_alloc ?_ _) | (with_reducible refine Kd.C_drewN ?_ _) | (with_reducible refine Kd.C_drew ?_) | exact HR543_2.out)) hb)
         have n8_ := Aside0.mk (Kd.C_below (by repeat (first | (with_reducible exact HR544_1.out) | (with_reducible refine Kd.C_alloc ?_ _) | (with_reducible refine Kd.C_drewN ?_ _) | (with_reducible refine Kd.C_drew ?_) | exact HR544_1.out)) hb)
         have n9_ := Aside0.mk (Kd.C_below (by repeat (first | (with_reducible exact HR544_2.out) | (with_reducible refine Kd.C_alloc ?_ _) | (with_reducible refine Kd.C_drewN ?_ _) | (with_reducible refine Kd.C_drew ?_) | exact HR544_2.out)) hb)
         have n10_ := Aside0.mk (below_step (bq0_ HB.out) hb)
         have n11_ := Aside0.mk (hbox)
         have n12_ := Aside0.mk ((by rw [hg]; exact (below_size (bq0_ HB.out)) : w.heap.size ≤ gb545))
         have n13_ := Aside0.mk ((by rw [hg]; exact (below_size (bq0_ HB.out)) : w.heap.size ≤ gb545))
         clear HO_0 HO_6 HL543_1 HL543_2 HL544_1 HL544_2 HR543_1 HR543_2 HR544_1 HR544_2 HB
         have HO_0 := n0_
         have HO_6 := n1_
         have HL543_1 := n2_
         have HL543_2 := n3_
         have HL544_1 := n4_
         have HL544_2 := n5_
         have HR543_1 := n6_
         have HR543_2 := n7_
         have HR544_1 := n8_
         have HR544_2 := n9_
         have HB := n10_
         have BK545 := n11_
         have GW545 := n12_
         have GE545 := n13_
         clear n0_ n1_ n2_ n3_ n4_ n5_ n6_ n7_ n8_ n9_ n10_ n11_ n12_ n13_ hb hbox hg
         refine hK.out _ _ ⟨HS0_, HS1_, HS2_, HS3_, HS4_, HS5_⟩ (fun hHeld => ?_)
         clear hK K
         refine norm_ (a' := ?_) ?_ ?_
         rotate_left
         ·show Act.put _ (some 8) _ = _
          simp only [Act.put, sA_, sB_, sC_, i64_w, i32_w]
          rfl
         refine one_ (i := 12) (N := none) L7_13 rfl rfl (one_of HT_.out (by kernel_rfl)) (by decide) (fun K hK => ?_)
         have hs19 : w18.cell? ⟨gb545, 0, none⟩ = some (.int .i64 0) := (blk_cell BK545.out 0).trans rfl
         have hfs19 := blk_frozen BK545.out 0
         have hs20 : w18.cell? ⟨gb545, 1, none⟩ = some (.slice none 0 0) := (blk_cell BK545.out 1).trans rfl
         have hfs20 := blk_frozen BK545.out 1
         have hs21 : w18.cell? ⟨gb545, 2, none⟩ = some (.slice none 0 0) := (blk_cell BK545.out 2).trans rfl
         have hfs21 := blk_frozen BK545.out 2
         refine skip_ (w1 := ?_) (by rfl) rfl ?_ ?_
         rotate_left
         ·go_simp
          rfl
         have hne_ : (ad543.add ((x7_2).toNat * 3)).block ≠ gb545 := fun e_ => by have h1_ : (ad543.add ((x7_2).toNat * 3)).block < w.heap.size := World.block_lt_of_cell? w ⟨(ad543.add ((x7_2).toNat * 3)).block, (ad543.add ((x7_2).toNat * 3)).off + 2, none⟩ HXW.out; have h2_ := GE545.out; omega
         refine hK.out _ _ ⟨far3_ hne_ hHeld.1, far3_ hne_ hHeld.2.1, far3_ hne_ hHeld.2.2.1, far3_ hne_ hHeld.2.2.2.1, far3_ hne_ hHeld.2.2.2.2.1, far3_ hne_ hHeld.2.2.2.2.2⟩ (fun hHeld => ?_)
         clear hK K
         refine done_ (done_of HT_.out (by kernel_rfl)) ?_
         try go_wp2
         go_loopg [9] k2 (fun kq v9 w' => ∃ (x9_3 : Int) (x546001_3 : List Int) (u546001 : Value), v9 = .int .i64 x9_3 ∧ Aside0 (fullerlaw10_GraphShifts.l1 kq l0 a1 t534 x6_2 x7_2 x9_3 ((rd_T35 l0 x7_2).f0) x546001_3 ((rd_T35 l0 x7_2).f2) = some r) ∧ Aside0 (kq ≤ k2) ∧ Aside0 (Kd.V k35 35 w' w.heap.size (fun k_ => (P0_ k_ ∨ w.heap.size ≤ k_) ∧ some k_ ≠ (u6 : Value).ownBlock ∧ some k_ ≠ (u546001 : Value).ownBlock ∧ k_ ≠ gb545) (.slice (some ad543) l0.length c0) l0) ∧ Aside0 (Kd.N k35 35 w' w.heap.size (fun k_ => (P0_ k_ ∨ w.heap.size ≤ k_) ∧ some k_ ≠ (u546001 : Value).ownBlock ∧ k_ ≠ gb545) u6 x6_2) ∧ Aside0 (Kd.R (Kd.int .i64) 3 w' w.heap.size (fun k_ => (w.heap.size ≤ k_)) u546001 x546001_3) ∧ Aside0 (w'.heap[gb545]? = some (.cells #[.int .i64 ((rd_T35 l0 x7_2).f0), u546001, (.slice A543_2 ((rd_T35 l0 x7_2).f2).length c543_2)] 35 (0, 0))) ∧ Aside0 (Below w.heap.size w w'))
         case atStart => exact ⟨(0), (([] : List Int)), (.slice none 0 0), (by first | rfl | (simp; done) | (simp [*]; done)), H', ⟨Nat.le_refl _⟩, ⟨by (with_reducible repeat (first | apply Kd.V_alloc | apply Kd.V_drewN | apply Kd.V_drew)); exact Kd.V_mono (Kd.V_far (p := ⟨gb545, 2, none⟩) (Kd.V_far (p := ⟨gb545, 1, none⟩) (Kd.V_far (p := ⟨gb545, 0, none⟩) (Kd.V_mono HO_0.out (fun k_ hk => (⟨hk, hk.2⟩ : _ ∧ k_ ≠ gb545))) (fun _ hk => hk.2) (.int .i64 ((rd_T35 l0 x7_2).f0))) (fun _ hk => hk.2) (.slice none 0 0)) (fun _ hk => hk.2) (.slice A543_2 ((rd_T35 l0 x7_2).f2).length c543_2)) (fun _ hk => ⟨hk.1.1.1, ⟨hk.1.1.2, ⟨(by simp [Value.ownBlock]), hk.1.2⟩⟩⟩)⟩, ⟨by (with_reducible repeat (first | apply Kd.N_alloc | apply Kd.N_drewN | apply Kd.N_drew)); exact Kd.N_mono (Kd.N_far (p := ⟨gb545, 2, none⟩) (Kd.N_far (p := ⟨gb545, 1, none⟩) (Kd.N_far (p := ⟨gb545, 0, none⟩) (Kd.N_mono HO_6.out (fun k_ hk => (⟨hk, hk.2⟩ : _ ∧ k_ ≠ gb545))) (fun _ hk => hk.2) (.int .i64 ((rd_T35 l0 x7_2).f0))) (fun _ hk => hk.2) (.slice none 0 0)) (fun _ hk => hk.2) (.slice A543_2 ((rd_T35 l0 x7_2).f2).length c543_2)) (fun _ hk => ⟨hk.1.1, ⟨(by simp [Value.ownBlock]), hk.1.2⟩⟩)⟩, ⟨by first | exact Kd.R_nil _ _ _ _ _ | exact Kd.N_nil _ _ _ _ _ | exact Kd.V_nil _ _ _ _ _ | exact Kd.Q_nil _ _ _ _ _ | exact Kd.S_nil _ _ _ _ _⟩, ⟨by (with_reducible repeat (first | refine blk_drewN ?_ _ | refine blk_drew ?_ | refine blk_alloc ?_ _)); refine blk_put (cs := #[.int .i64 ((rd_T35 l0 x7_2).f0), .slice none 0 0, .slice none 0 0]) ?_ 2 _ rfl; (with_reducible repeat (first | refine blk_drewN ?_ _ | refine blk_drew ?_ | refine blk_alloc ?_ _)); refine blk_put (cs := #[.int .i64 ((rd_T35 l0 x7_2).f0), .slice none 0 0, .slice none 0 0]) ?_ 1 _ rfl; (with_reducible repeat (first | refine blk_drewN ?_ _ | refine blk_drew ?_ | refine blk_alloc ?_ _)); refine blk_put (cs := #[.int .i64 0, .slice none 0 0, .slice none 0 0]) ?_ 0 _ rfl; (with_reducible repeat (first | refine blk_drewN ?_ _ | refine blk_drew ?_ | refine blk_alloc ?_ _)); exact BK545.out⟩, ⟨bq1_ HB.out GE545.out⟩⟩
         case round =>
          clear H'
          try clear c1
          try clear p2
          try clear c5
          try clear p5
          try clear q5
          try clear hx5
          try clear c7
          try clear c9
          try clear c10
          try clear c11
          try clear c15
          try clear c15b0
          try clear c16
          try clear c16b0
          try clear hx543_0
          try clear hx543_1
          try clear hx543_2
          try clear hx544_0
          try clear hx544_1
          try clear hx544_2
          try clear p2
          try clear p543
          try clear p544
          try clear q543
          try clear q544
          obtain ⟨x9_3, x546001_3, u546001, rfl, HA, HK3, HO_0, HO_6, HO_546001, BK545, HB⟩ := hrel
          cases gk with
          | zero => exact absurd HA.out (by simp [fullerlaw10_GraphShifts.l1])
          | succ k3 =>
           have H := HA.out
           clear HA
           simp only [fullerlaw10_GraphShifts.l1] at H
           by_cases c22 : 0 ≤ x7_2
           ·rw [if_pos c22] at H
            have c22b0 : decide (0 ≤ x7_2) = true := decide_eq_true c22
            clear c22
            by_cases c23 : x7_2 < (l0.length : Int)
            ·rw [if_pos c23] at H
             have c23b0 : decide (x7_2 < (l0.length : Int)) = true := decide_eq_true c23
             clear c23
             by_cases c24 : x9_3 < (((rd_T35 l0 x7_2).f1).length : Int)
             ·rw [if_pos c24] at H
              have c24b0 : decide (x9_3 < (((rd_T35 l0 x7_2).f1).length : Int)) = true := decide_eq_true c24
              clear c24
              by_cases c25 : 0 ≤ x9_3
              ·rw [if_pos c25] at H
               have c25b0 : decide (0 ≤ x9_3) = true := decide_eq_true c25
               clear c25
               by_cases c26 : x546001_3.length < 17592186044416
               ·rw [if_pos c26] at H
                have LMc26 := Aside0.mk c26
                clear c26
                obtain ⟨y549, hy549⟩ : ∃ y_ : List Int, y_ = (x546001_3 ++ [wrap64 ((rd ((rd_T35 l0 x7_2).f1) x9_3) + (l0.length : Int))]) := ⟨_, rfl⟩
                replace H : (fullerlaw10_GraphShifts.l1 k3 l0 a1 t534 x6_2 x7_2 (wrap64 (x9_3 + 1)) ((rd_T35 l0 x7_2).f0) y549 ((rd_T35 l0 x7_2).f2)) = some r := by first | (rw [hy549]; with_reducible exact H) | (have H2_ := (Option.bind_some _ _).symm.trans H; rw [hy549]; with_reducible exact H2_) | (have H2_ := (Option.bind_some _ _).symm.trans H; with_reducible exact H2_) | with_reducible exact H | (rw [hy549]; exact H) | exact H
                have Ny549 := Aside0.mk hy549
                clear hy549
                have H' := Aside0.mk H
                clear H
                have p546 : 0 ≤ (x7_2 : Int) := od_
                have q546 : x7_2 < (l0.length : Int) := od_
                obtain ⟨ad546, A546_1, c546_1, A546_2, c546_2, e546, hx546_0, hx546_1, hx546_2, hl546_1, hi546_1, hl546_2, hi546_2⟩ := at_T35 (Kd.V_reads' HO_0.out).2.2 x7_2 p546 q546
                obtain rfl : ad543 = ad546 := (by injection e546)
                obtain ⟨ce546, hce546, hMe546, hcc546⟩ := Kd.V_get HO_0.out z35 x7_2 p546 (by first | exact q546 | exact od_ | (have e_ := (Kd.V_reads' HO_0.out).1; omega))
                obtain ⟨ua546_1, uc546_1, ua546_2, uc546_2, rfl, ul546_1, ge546_1, ul546_2, ge546_2⟩ := k35_openF hMe546
                have hv546_1 := hcc546 1 _ rfl
                rw [add_field _ _ 1 (by omega)] at hv546_1
                replace hv546_1 := Option.some.inj (hv546_1.symm.trans hx546_1)
                injection hv546_1 with hva_ hvn_ hvc_
                rw [hva_] at ge546_1
                rw [hvc_] at ul546_1
                have HL546_1 := Aside0.mk (show Kd.V (Kd.int .i64) 3 _ w.heap.size _ _ ((rd_T35 l0 x7_2).f1) from Kd.V_mk ul546_1 ge546_1)
                clear hva_ hvn_ hvc_ ge546_1 ul546_1
                have hv546_2 := hcc546 2 _ rfl
                rw [add_field _ _ 2 (by omega)] at hv546_2
                replace hv546_2 := Option.some.inj (hv546_2.symm.trans hx546_2)
                injection hv546_2 with hva_ hvn_ hvc_
                rw [hva_] at ge546_2
                rw [hvc_] at ul546_2
                have HL546_2 := Aside0.mk (show Kd.V (Kd.int .i64) 3 _ w.heap.size _ _ ((rd_T35 l0 x7_2).f2) from Kd.V_mk ul546_2 ge546_2)
                clear hva_ hvn_ hvc_ ge546_2 ul546_2 hcc546 hce546
                have HR546_1 := Aside0.mk hi546_1
                have HC546_1 := Aside0.mk hl546_1
                clear hi546_1 hl546_1
                have HR546_2 := Aside0.mk hi546_2
                have HC546_2 := Aside0.mk hl546_2
                clear hi546_2 hl546_2
                replace p546 := eq_true p546
                replace q546 := eq_true q546
                try go_wp2
                replace HO_0 := Aside0.mk (Kd.V_drew HO_0.out)
                replace HO_6 := Aside0.mk (Kd.N_drew HO_6.out)
                replace HO_546001 := Aside0.mk (Kd.R_drew HO_546001.out)
                replace HL546_1 := Aside0.mk (Kd.V_drew HL546_1.out)
                replace HL546_2 := Aside0.mk (Kd.V_drew HL546_2.out)
                replace BK545 := Aside0.mk (blk_drew BK545.out)
                replace HR546_1 := Aside0.mk (Kd.C_drew HR546_1.out)
                replace HR546_2 := Aside0.mk (Kd.C_drew HR546_2.out)
                replace HB := Aside0.mk (below_drew1 HB.out)
                have p547 : 0 ≤ (x7_2 : Int) := od_
                have q547 : x7_2 < (l0.length : Int) := od_
                obtain ⟨ad547, A547_1, c547_1, A547_2, c547_2, e547, hx547_0, hx547_1, hx547_2, hl547_1, hi547_1, hl547_2, hi547_2⟩ := at_T35 (Kd.V_reads' HO_0.out).2.2 x7_2 p547 q547
                obtain rfl : ad543 = ad547 := (by injection e547)
                obtain ⟨ce547, hce547, hMe547, hcc547⟩ := Kd.V_get HO_0.out z35 x7_2 p547 (by first | exact q547 | exact od_ | (have e_ := (Kd.V_reads' HO_0.out).1; omega))
                obtain ⟨ua547_1, uc547_1, ua547_2, uc547_2, rfl, ul547_1, ge547_1, ul547_2, ge547_2⟩ := k35_openF hMe547
                have hv547_1 := hcc547 1 _ rfl
                rw [add_field _ _ 1 (by omega)] at hv547_1
                replace hv547_1 := Option.some.inj (hv547_1.symm.trans hx547_1)
                injection hv547_1 with hva_ hvn_ hvc_
                rw [hva_] at ge547_1
                rw [hvc_] at ul547_1
                have HL547_1 := Aside0.mk (show Kd.V (Kd.int .i64) 3 _ w.heap.size _ _ ((rd_T35 l0 x7_2).f1) from Kd.V_mk ul547_1 ge547_1)
                clear hva_ hvn_ hvc_ ge547_1 ul547_1
                have hv547_2 := hcc547 2 _ rfl
                rw [add_field _ _ 2 (by omega)] at hv547_2
                replace hv547_2 := Option.some.inj (hv547_2.symm.trans hx547_2)
                injection hv547_2 with hva_ hvn_ hvc_
                rw [hva_] at ge547_2
                rw [hvc_] at ul547_2
                have HL547_2 := Aside0.mk (show Kd.V (Kd.int .i64) 3 _ w.heap.size _ _ ((rd_T35 l0 x7_2).f2) from Kd.V_mk ul547_2 ge547_2)
                clear hva_ hvn_ hvc_ ge547_2 ul547_2 hcc547 hce547
                have HR547_1 := Aside0.mk hi547_1
                have HC547_1 := Aside0.mk hl547_1
                clear hi547_1 hl547_1
                have HR547_2 := Aside0.mk hi547_2
                have HC547_2 := Aside0.mk hl547_2
                clear hi547_2 hl547_2
                replace p547 := eq_true p547
                replace q547 := eq_true q547
                have p548 : 0 ≤ (x9_3 : Int) := od_
                have q548 : x9_3 < (((rd_T35 l0 x7_2).f1).length : Int) := od_
                obtain ⟨ad548, e548, hx548_0⟩ := Kd.at_int (by repeat (first | (with_reducible exact HR547_1.out) | (with_reducible refine Kd.C_alloc ?_ _) | (with_reducible refine Kd.C_drewN ?_ _) | (with_reducible refine Kd.C_drew ?_) | exact HR547_1.out)) x9_3 p548 q548
                cases e548
                replace p548 := eq_true p548
                replace q548 := eq_true q548
                refine start_ (n := 17) (S := fun w' => w'.cell? ⟨gb545, 0, none⟩ = some (.int .i64 ((rd_T35 l0 x7_2).f0)) ∧ w'.cell? ⟨gb545, 1, none⟩ = some (u546001) ∧ w'.cell? ⟨gb545, 2, none⟩ = some (.slice A543_2 ((rd_T35 l0 x7_2).f2).length c543_2) ∧ w'.cell? (ad543.add ((x7_2).toNat * 3)) = some (.int .i64 ((rd_T35 l0 x7_2).f0)) ∧ w'.cell? ⟨(ad543.add ((x7_2).toNat * 3)).block, (ad543.add ((x7_2).toNat * 3)).off + 1, none⟩ = some (.slice (some ad548) ((rd_T35 l0 x7_2).f1).length c547_1) ∧ w'.cell? ⟨(ad543.add ((x7_2).toNat * 3)).block, (ad543.add ((x7_2).toNat * 3)).off + 2, none⟩ = some (.slice A547_2 ((rd_T35 l0 x7_2).f2).length c547_2) ∧ w'.cell? (ad548.add (x9_3).toNat) = some (.int .i64 (rd ((rd_T35 l0 x7_2).f1) x9_3))) (ds := [14, 16]) L7_14 (by kernel_rfl) rfl rfl ⟨(blk_cell BK545.out 0).trans rfl, (blk_cell BK545.out 1).trans rfl, (blk_cell BK545.out 2).trans rfl, hx547_0, hx547_1, hx547_2, hx548_0⟩ (fun hHeld => ?_); refine with_tabW fullerlaw10_GraphShifts.tab12 fullerlaw10_GraphShifts.bits12 (fun HT_ HW_ => ?_)
                generalize wr.drew = w27 at HO_0 HO_6 HO_546001 HL546_1 HL546_2 BK545 HR546_1 HR546_2 HB HL547_1 HL547_2 HR547_1 HR547_2 hx547_0 hx547_1 hx547_2 hx548_0 hHeld ⊢
                refine pu_ 0 (some 54) L7_15 HT_ ?_
                refine pu_ 2 (some 56) L7_16 HT_ ?_
                refine pu_ 3 (some 57) L7_17 HT_ ?_
                refine pu_ 4 (some 58) L7_18 HT_ ?_
                refine pu_ 5 (some 59) L7_19 HT_ ?_
                refine pu_ 7 (some 61) L7_20 HT_ ?_
                refine pu_ 10 (some 64) L7_21 HT_ ?_
                refine pu_ 11 (some 65) L7_22 HT_ ?_
                refine ta_ 1 (some 55) L7_23 HT_ HW_ hHeld ?_ (hy := by rintro w' ⟨s0, s1, s2, s3, s4, s5, s6⟩; go_simp; with_reducible rfl)
                refine ta_ 6 (some 60) L7_24 HT_ HW_ hHeld ?_ (hy := by rintro w' ⟨s0, s1, s2, s3, s4, s5, s6⟩; go_simp; with_reducible rfl)
                refine pu_ 8 (some 62) L7_25 HT_ ?_
                refine ta_ 9 (some 63) L7_26 HT_ HW_ hHeld ?_ (hy := by rintro w' ⟨s0, s1, s2, s3, s4, s5, s6⟩; go_simp; with_reducible rfl)
                refine pu_ 12 (some 66) L7_27 HT_ ?_
                refine one_ (i := 13) (N := some 67) L7_28 rfl rfl (one_of HT_.out (by kernel_rfl)) (by decide) (fun K hK => ?_)
                refine value_ (w1 := ?_) (v := ?_) (by rfl) rfl ?_ ?_
                rotate_left 2
                ·go_simp
                 constructor
                 ·rfl
                 ·rfl
                refine hK.out _ _ ⟨(blk_cell (blk_alloc BK545.out _) 0).trans rfl, (blk_cell (blk_alloc BK545.out _) 1).trans rfl, (blk_cell (blk_alloc BK545.out _) 2).trans rfl, (World.cell?_alloc_lt _ _ _ (World.block_lt_of_cell? _ _ (hHeld.2.2.2.1))).trans (hHeld.2.2.2.1), (World.cell?_alloc_lt _ _ _ (World.block_lt_of_cell? _ _ (hHeld.2.2.2.2.1))).trans (hHeld.2.2.2.2.1), (World.cell?_alloc_lt _ _ _ (World.block_lt_of_cell? _ _ (hHeld.2.2.2.2.2.1))).trans (hHeld.2.2.2.2.2.1), (World.cell?_alloc_lt _ _ _ (World.block_lt_of_cell? _ _ (hHeld.2.2.2.2.2.2))).trans (hHeld.2.2.2.2.2.2)⟩ (fun hHeld => ?_)
                clear hK K
                refine norm_ (a' := ?_) ?_ ?_
                rotate_left
                ·show Act.put _ (some 67) _ = _
                 simp only [Act.put, sA_, sB_, sC_, i64_w, i32_w]
                 rfl
                refine last_ (i := 14) (N := some 68) L7_29 rfl rfl (one_of HT_.out (by kernel_rfl)) (by decide) (fun K hK => ?_)
                refine Kd.R_append_step (Kd.int .i64) (w0 := w) w.heap.size (by rfl) (.tmp 55) (.tmp 67) 25 3 (.int .i64 0) 8 rfl Try.underlying25 info3 rfl (by decide) (by omega) u546001 x546001_3 (wrap64 ((rd ((rd_T35 l0 x7_2).f1) x9_3) + (l0.length : Int))) [.int .i64 (wrap64 ((rd ((rd_T35 l0 x7_2).f1) x9_3) + (l0.length : Int)))] (fun k_ => (w.heap.size ≤ k_)) (fun _ => False) rfl rfl ?aP (fun _ hk => hk.elim) ?aF ?aO ?aB ?aS ?aL ?_
                (case aP => exact rfl)
                (case aB => exact (bq1_ HB.out GE545.out))
                (case aF => exact (fun k_ hk => (Nat.le_trans (below_size (bq1_ HB.out GE545.out)) hk)))
                (case aO => exact (mvR_ HO_546001.out))
                (case aS => exact (below_size (bq1_ HB.out GE545.out)))
                (case aL => have := LMc26.out; omega)
                intro v550 w28 ho hb hg hat
                rw [← Ny549.out] at ho
                have n0_ := Aside0.mk (Kd.V_afterv (ok := (fun k_ => (P0_ k_ ∨ w.heap.size ≤ k_) ∧ some k_ ≠ (u6 : Value).ownBlock ∧ k_ ≠ gb545)) (by (with_reducible repeat (first | apply Kd.V_alloc | apply Kd.V_drewN | apply Kd.V_drew)); exact Kd.V_mono HO_0.out (fun _ hk => ⟨⟨hk.1, ⟨hk.2.1, hk.2.2.2⟩⟩, hk.2.2.1⟩)) hg hat)
                have n1_ := Aside0.mk (Kd.N_afterv (ok := (fun k_ => (P0_ k_ ∨ w.heap.size ≤ k_) ∧ k_ ≠ gb545)) (by (with_reducible repeat (first | apply Kd.N_alloc | apply Kd.N_drewN | apply Kd.N_drew)); exact Kd.N_mono HO_6.out (fun _ hk => ⟨⟨hk.1, hk.2.2⟩, hk.2.1⟩)) hg hat)
                have n2_ := Aside0.mk (blk_grown (g := gb545) (o := .cells #[.int .i64 ((rd_T35 l0 x7_2).f0), u546001, .slice A543_2 ((rd_T35 l0 x7_2).f2).length c543_2] 35 (0, 0)) (mvK_ BK545.out) hg (Kd.R_ne HO_546001.out BK545.out (by decide)))
                have n3_ := Aside0.mk (Kd.V_afterv (ok := (fun k_ => (P0_ k_ ∨ w.heap.size ≤ k_) ∧ some k_ ≠ (u6 : Value).ownBlock ∧ k_ ≠ gb545)) (by (with_reducible repeat (first | apply Kd.V_alloc | apply Kd.V_drewN | apply Kd.V_drew)); exact Kd.V_mono HL546_1.out (fun _ hk => ⟨⟨hk.1, ⟨hk.2.1, hk.2.2.2⟩⟩, hk.2.2.1⟩)) hg hat)
                have n4_ := Aside0.mk (Kd.V_afterv (ok := (fun k_ => (P0_ k_ ∨ w.heap.size ≤ k_) ∧ some k_ ≠ (u6 : Value).ownBlock ∧ k_ ≠ gb545)) (by (with_reducible repeat (first | apply Kd.V_alloc | apply Kd.V_drewN | apply Kd.V_drew)); exact Kd.V_mono HL546_2.out (fun _ hk => ⟨⟨hk.1, ⟨hk.2.1, hk.2.2.2⟩⟩, hk.2.2.1⟩)) hg hat)
                have n5_ := Aside0.mk (Kd.V_afterv (ok := (fun k_ => (P0_ k_ ∨ w.heap.size ≤ k_) ∧ some k_ ≠ (u6 : Value).ownBlock ∧ k_ ≠ gb545)) (by (with_reducible repeat (first | apply Kd.V_alloc | apply Kd.V_drewN | apply Kd.V_drew)); exact Kd.V_mono HL547_1.out (fun _ hk => ⟨⟨hk.1, ⟨hk.2.1, hk.2.2.2⟩⟩, hk.2.2.1⟩)) hg hat)
                have n6_ := Aside0.mk (Kd.V_afterv (ok := (fun k_ => (P0_ k_ ∨ w.heap.size ≤ k_) ∧ some k_ ≠ (u6 : Value).ownBlock ∧ k_ ≠ gb545)) (by (with_reducible repeat (first | apply Kd.V_alloc | apply Kd.V_drewN | apply Kd.V_drew)); exact Kd.V_mono HL547_2.out (fun _ hk => ⟨⟨hk.1, ⟨hk.2.1, hk.2.2.2⟩⟩, hk.2.2.1⟩)) hg hat)
                have n7_ := Aside0.mk (hb)
                have n8_ := Aside0.mk (ho)
                clear HO_0 HO_6 BK545 HL546_1 HL546_2 HL547_1 HL547_2 HB HO_546001
                have HO_0 := n0_
                have HO_6 := n1_
                have BK545 := n2_
                have HL546_1 := n3_
                have HL546_2 := n4_
                have HL547_1 := n5_
                have HL547_2 := n6_
                have HB := n7_
                have HO551 := n8_
                clear n0_ n1_ n2_ n3_ n4_ n5_ n6_ n7_ n8_ ho hb hg hat
                obtain ⟨Ao29, co29, eo29⟩ := Kd.R_slice HO551.out
                (first | subst eo29 | (injection eo29 with f1_ f2_ f3_; have f4_ := f1_.symm; have f5_ := f3_.symm; clear f1_ f2_ f3_; subst f4_; subst f5_))
                refine hK.out _ _ ?_
                clear hK K
                refine norm_ (a' := ?_) ?_ ?_
                rotate_left
                ·show Act.put _ (some 68) _ = _
                 simp only [Act.put, sA_, sB_, sC_, i64_w, i32_w]
                 rfl
                refine pu_ 15 (some 69) L7_30 HT_ ?_
                refine last_ (i := 16) (N := none) L7_31 rfl rfl (one_of HT_.out (by kernel_rfl)) (by decide) (fun K hK => ?_)
                have hs30 : w28.cell? ⟨gb545, 1, none⟩ = some (u546001) := (blk_cell BK545.out 1).trans rfl
                have hfs30 := blk_frozen BK545.out 1
                refine skip_ (w1 := ?_) (by rfl) rfl ?_ ?_
                rotate_left
                ·go_simp
                 rfl
                refine hK.out _ _ ?_
                clear hK K
                refine done_ (done_of HT_.out (by kernel_rfl)) ?_
                try go_wp2
                go_roundg k3
                case measure => have := HJ3.out; have := HK2.out; have := HK3.out; omega
                case rel => exact ⟨(wrap64 (x9_3 + 1)), (y549), (.slice Ao29 y549.length co29), (by first | rfl | (simp; done) | (simp [*]; done)), H', ⟨by have := HJ3.out; have := HK2.out; have := HK3.out; omega⟩, ⟨by (with_reducible repeat (first | apply Kd.V_alloc | apply Kd.V_drewN | apply Kd.V_drew)); exact Kd.V_mono (Kd.V_far (p := ⟨gb545, 1, none⟩) (Kd.V_mono HO_0.out (fun k_ hk => (⟨hk, hk.1.2.2⟩ : _ ∧ k_ ≠ gb545))) (fun _ hk => hk.2) (.slice Ao29 y549.length co29)) (fun _ hk => ⟨hk.1.1.1, ⟨hk.1.1.2.1, ⟨hk.1.2, hk.1.1.2.2⟩⟩⟩)⟩, ⟨by (with_reducible repeat (first | apply Kd.N_alloc | apply Kd.N_drewN | apply Kd.N_drew)); exact Kd.N_mono (Kd.N_far (p := ⟨gb545, 1, none⟩) (Kd.N_mono HO_6.out (fun k_ hk => (⟨hk, hk.1.2⟩ : _ ∧ k_ ≠ gb545))) (fun _ hk => hk.2) (.slice Ao29 y549.length co29)) (fun _ hk => ⟨hk.1.1.1, ⟨hk.1.2, hk.1.1.2⟩⟩)⟩, ⟨by (with_reducible repeat (first | apply Kd.R_alloc | apply Kd.R_drewN | apply Kd.R_drew)); exact Kd.R_mono (Kd.R_far (p := ⟨gb545, 1, none⟩) (Kd.R_types HO551.out BK545.out (by decide)) (fun _ hk => hk.2) (.slice Ao29 y549.length co29)) (fun _ hk => hk.1)⟩, ⟨by (with_reducible repeat (first | refine blk_drewN ?_ _ | refine blk_drew ?_ | refine blk_alloc ?_ _)); refine blk_put (cs := #[.int .i64 ((rd_T35 l0 x7_2).f0), u546001, .slice A543_2 ((rd_T35 l0 x7_2).f2).length c543_2]) ?_ 1 _ rfl; (with_reducible repeat (first | refine blk_drewN ?_ _ | refine blk_drew ?_ | refine blk_alloc ?_ _)); exact BK545.out⟩, ⟨bq1_ HB.out GE545.out⟩⟩
               ·rw [if_neg c26] at H
                exact absurd H (by simp)
              ·rw [if_neg c25] at H
               exact absurd H (by simp)
             ·rw [if_neg c24] at H
              have c24b0 : decide (x9_3 < (((rd_T35 l0 x7_2).f1).length : Int)) = false := decide_eq_false c24
              clear c24
              by_cases c31 : x6_2.length < 2513169434916
              ·rw [if_pos c31] at H
               have LMc31 := Aside0.mk c31
               clear c31
               obtain ⟨y552, hy552⟩ : ∃ y_ : List (S35), y_ = (x6_2 ++ [(⟨((rd_T35 l0 x7_2).f0), x546001_3, ((rd_T35 l0 x7_2).f2)⟩ : S35)]) := ⟨_, rfl⟩
               replace H : (fullerlaw10_GraphShifts.l0 k3 l0 a1 t534 y552 (wrap64 (x7_2 + 1))) = some r := by first | (rw [hy552]; with_reducible exact H) | (have H2_ := (Option.bind_some _ _).symm.trans H; rw [hy552]; with_reducible exact H2_) | (have H2_ := (Option.bind_some _ _).symm.trans H; with_reducible exact H2_) | with_reducible exact H | (rw [hy552]; exact H) | exact H
               have Ny552 := Aside0.mk hy552
               clear hy552
               have H' := Aside0.mk H
               clear H
               have p546 : 0 ≤ (x7_2 : Int) := od_
               have q546 : x7_2 < (l0.length : Int) := od_
               obtain ⟨ad546, A546_1, c546_1, A546_2, c546_2, e546, hx546_0, hx546_1, hx546_2, hl546_1, hi546_1, hl546_2, hi546_2⟩ := at_T35 (Kd.V_reads' HO_0.out).2.2 x7_2 p546 q546
               obtain rfl : ad543 = ad546 := (by injection e546)
               obtain ⟨ce546, hce546, hMe546, hcc546⟩ := Kd.V_get HO_0.out z35 x7_2 p546 (by first | exact q546 | exact od_ | (have e_ := (Kd.V_reads' HO_0.out).1; omega))
               obtain ⟨ua546_1, uc546_1, ua546_2, uc546_2, rfl, ul546_1, ge546_1, ul546_2, ge546_2⟩ := k35_openF hMe546
               have hv546_1 := hcc546 1 _ rfl
               rw [add_field _ _ 1 (by omega)] at hv546_1
               replace hv546_1 := Option.some.inj (hv546_1.symm.trans hx546_1)
               injection hv546_1 with hva_ hvn_ hvc_
               rw [hva_] at ge546_1
               rw [hvc_] at ul546_1
               have HL546_1 := Aside0.mk (show Kd.V (Kd.int .i64) 3 _ w.heap.size _ _ ((rd_T35 l0 x7_2).f1) from Kd.V_mk ul546_1 ge546_1)
               clear hva_ hvn_ hvc_ ge546_1 ul546_1
               have hv546_2 := hcc546 2 _ rfl
               rw [add_field _ _ 2 (by omega)] at hv546_2
               replace hv546_2 := Option.some.inj (hv546_2.symm.trans hx546_2)
               injection hv546_2 with hva_ hvn_ hvc_
               rw [hva_] at ge546_2
               rw [hvc_] at ul546_2
               have HL546_2 := Aside0.mk (show Kd.V (Kd.int .i64) 3 _ w.heap.size _ _ ((rd_T35 l0 x7_2).f2) from Kd.V_mk ul546_2 ge546_2)
               have hxx_ := pw_cell_below HB.out HXW.out
               have hxy_ := Option.some.inj (hxx_.symm.trans hx546_2)
               injection hxy_ with hya_ hyn_ hyc_
               have HLN := Aside0.mk (show Kd.V (Kd.int .i64) 3 _ w.heap.size _ (.slice A543_2 ((rd_T35 l0 x7_2).f2).length c543_2) ((rd_T35 l0 x7_2).f2) from by rw [hya_, hyc_]; exact HL546_2.out)
               clear hxx_ hya_ hyn_ hyc_
               clear hva_ hvn_ hvc_ ge546_2 ul546_2 hcc546 hce546
               have HR546_1 := Aside0.mk hi546_1
               have HC546_1 := Aside0.mk hl546_1
               clear hi546_1 hl546_1
               have HR546_2 := Aside0.mk hi546_2
               have HC546_2 := Aside0.mk hl546_2
               clear hi546_2 hl546_2
               replace p546 := eq_true p546
               replace q546 := eq_true q546
               have hcz32_0 : wr.cell? ⟨gb545, 0, none⟩ = some (.int .i64 ((rd_T35 l0 x7_2).f0)) := (blk_cell BK545.out 0).trans rfl
               have hcz32_1 : wr.cell? ⟨gb545, 1, none⟩ = some (u546001) := (blk_cell BK545.out 1).trans rfl
               have hcz32_2 : wr.cell? ⟨gb545, 2, none⟩ = some (.slice A543_2 ((rd_T35 l0 x7_2).f2).length c543_2) := (blk_cell BK545.out 2).trans rfl
               have hfz32_0 := blk_frozen BK545.out 0
               have hfz32_1 := blk_frozen BK545.out 1
               have hfz32_2 := blk_frozen BK545.out 2
               obtain ⟨Ao34, co34, eo34⟩ := Kd.R_slice HO_546001.out
               subst eo34
               go_wp2_with (first | ((with_reducible refine gate_builtin (b := .append) (xs := #[.tmp 70, .tmp 72]) rfl ?_); (try (refine gate_guard (by rfl) ?_; dsimp only)); at_builtin; refine Kd.N_append k35 (w0 := w) w.heap.size rfl (.tmp 70) (.tmp 72) 22 35 (.agg #[(.int .i64 0), (.slice none 0 0), (.slice none 0 0)]) 56 rfl Try.underlying22 info35 rfl (by decide) (by omega) u6 x6_2 (⟨((rd_T35 l0 x7_2).f0), x546001_3, ((rd_T35 l0 x7_2).f2)⟩ : S35) [.int .i64 ((rd_T35 l0 x7_2).f0), .slice Ao34 x546001_3.length co34, .slice A543_2 ((rd_T35 l0 x7_2).f2).length c543_2] (fun k_ => (P0_ k_ ∨ w.heap.size ≤ k_) ∧ k_ ≠ gb545) (fun k_ => ((fun k_ => (P0_ k_ ∨ w.heap.size ≤ k_) ∧ k_ ≠ gb545)) k_ ∧ some k_ ≠ (u6 : Value).ownBlock) rfl rfl ?aP (fun _ hk => hk) ?aF ?aO ?aB ?aS ?aL ?_; (case aP => exact (k35_mkF _ _ (⟨((rd_T35 l0 x7_2).f0), x546001_3, ((rd_T35 l0 x7_2).f2)⟩ : S35) (Kd.R_reads' (Kd.R_mono (ok' := (fun k_ => ((fun k_ => (P0_ k_ ∨ w.heap.size ≤ k_) ∧ k_ ≠ gb545)) k_ ∧ some k_ ≠ (u6 : Value).ownBlock)) (Kd.R_types (Kd.R_apart' (HO_546001.out) (Kd.N_typed HO_6.out) (by decide)) BK545.out (by decide)) (fun k_ hk => ⟨⟨(.inr (hk.1.1)), hk.2⟩, hk.1.2⟩))).2.1 (Kd.R_F (Kd.R_mono (ok' := (fun k_ => ((fun k_ => (P0_ k_ ∨ w.heap.size ≤ k_) ∧ k_ ≠ gb545)) k_ ∧ some k_ ≠ (u6 : Value).ownBlock)) (Kd.R_types (Kd.R_apart' (HO_546001.out) (Kd.N_typed HO_6.out) (by decide)) BK545.out (by decide)) (fun k_ hk => ⟨⟨(.inr (hk.1.1)), hk.2⟩, hk.1.2⟩))) (Kd.V_reads' (Kd.V_mono (ok' := (fun k_ => ((fun k_ => (P0_ k_ ∨ w.heap.size ≤ k_) ∧ k_ ≠ gb545)) k_ ∧ some k_ ≠ (u6 : Value).ownBlock)) HLN.out (fun k_ hk => ⟨⟨hk.1, hk.2.2.2⟩, hk.2.1⟩))).2.1 (Kd.V_F (Kd.V_mono (ok' := (fun k_ => ((fun k_ => (P0_ k_ ∨ w.heap.size ≤ k_) ∧ k_ ≠ gb545)) k_ ∧ some k_ ≠ (u6 : Value).ownBlock)) HLN.out (fun k_ hk => ⟨⟨hk.1, hk.2.2.2⟩, hk.2.1⟩))))); (case aB => exact (bq1_ HB.out GE545.out)); (case aF => exact (fun k_ hk => ⟨(.inr (Nat.le_trans (below_size (bq1_ HB.out GE545.out)) hk)), Kd.freshB (g := gb545) (o := .cells #[.int .i64 ((rd_T35 l0 x7_2).f0), .slice Ao34 x546001_3.length co34, .slice A543_2 ((rd_T35 l0 x7_2).f2).length c543_2] 35 (0, 0)) (mvK_ BK545.out) k_ hk⟩)); (case aO => exact (by (with_reducible repeat (first | apply Kd.N_alloc | apply Kd.N_drewN | apply Kd.N_drew)); exact Kd.N_mono HO_6.out (fun _ hk => ⟨hk.1, hk.2.2⟩))); (case aS => exact (below_size (bq1_ HB.out GE545.out))); (case aL => have := LMc31.out; omega); intro v553 w33 ho hb hg hat; rw [← Ny552.out] at ho; have HO554 := Aside0.mk (ho); replace HO_0 := Aside0.mk (Kd.V_afterv (ok := (fun k_ => (P0_ k_ ∨ w.heap.size ≤ k_) ∧ some k_ ≠ (.slice Ao34 x546001_3.length co34 : Value).ownBlock ∧ k_ ≠ gb545)) (by (with_reducible repeat (first | apply Kd.V_alloc | apply Kd.V_drewN | apply Kd.V_drew)); exact Kd.V_mono HO_0.out (fun _ hk => ⟨⟨hk.1, ⟨hk.2.2.1, hk.2.2.2⟩⟩, hk.2.1⟩)) hg hat); replace BK545 := Aside0.mk (blk_grown (g := gb545) (o := .cells #[.int .i64 ((rd_T35 l0 x7_2).f0), .slice Ao34 x546001_3.length co34, .slice A543_2 ((rd_T35 l0 x7_2).f2).length c543_2] 35 (0, 0)) (mvK_ BK545.out) hg (Kd.N_away HO_6.out (fun _ hk => hk.2.2))); replace HL546_1 := Aside0.mk (Kd.V_afterv (ok := (fun k_ => (P0_ k_ ∨ w.heap.size ≤ k_) ∧ some k_ ≠ (.slice Ao34 x546001_3.length co34 : Value).ownBlock ∧ k_ ≠ gb545)) (by (with_reducible repeat (first | apply Kd.V_alloc | apply Kd.V_drewN | apply Kd.V_drew)); exact Kd.V_mono HL546_1.out (fun _ hk => ⟨⟨hk.1, ⟨hk.2.2.1, hk.2.2.2⟩⟩, hk.2.1⟩)) hg hat); replace HL546_2 := Aside0.mk (Kd.V_afterv (ok := (fun k_ => (P0_ k_ ∨ w.heap.size ≤ k_) ∧ some k_ ≠ (.slice Ao34 x546001_3.length co34 : Value).ownBlock ∧ k_ ≠ gb545)) (by (with_reducible repeat (first | apply Kd.V_alloc | apply Kd.V_drewN | apply Kd.V_drew)); exact Kd.V_mono HL546_2.out (fun _ hk => ⟨⟨hk.1, ⟨hk.2.2.1, hk.2.2.2⟩⟩, hk.2.1⟩)) hg hat); replace HB := Aside0.mk (hb); clear HO_6 HO_546001 ho hb hg hat))
               go_roundg k3
               case measure => have := HJ3.out; have := HK2.out; have := HK3.out; omega
               case rel => exact ⟨(y552), (wrap64 (x7_2 + 1)), (by first | rfl | (simp; done) | (simp [*]; done)), H', ⟨by have := HJ3.out; have := HK2.out; have := HK3.out; omega⟩, ⟨by (with_reducible repeat (first | apply Kd.V_alloc | apply Kd.V_drewN | apply Kd.V_drew)); exact Kd.V_mono HO_0.out (fun _ hk => ⟨hk.1.1, hk.2⟩)⟩, ⟨by (with_reducible repeat (first | apply Kd.N_alloc | apply Kd.N_drewN | apply Kd.N_drew)); exact Kd.N_mono HO554.out (fun _ hk => hk.1)⟩, ⟨bq1_ HB.out GE545.out⟩⟩
              ·rw [if_neg c31] at H
               exact absurd H (by simp)
            ·rw [if_neg c23] at H
             exact absurd H (by simp)
           ·rw [if_neg c22] at H
            exact absurd H (by simp)
        ·rw [if_neg c16] at H
         exact absurd H (by simp)
       ·rw [if_neg c15] at H
        have c15b0 : decide (x7_2 < (l0.length : Int)) = false := decide_eq_false c15
        clear c15
        have HC35 := Aside0.mk H
        clear H
        go_upto_region 14 with (fail)
        go_cut [86] (fun v86 wc => ∃ (kq : Nat) (x86_34 : Bool), v86 = .bool x86_34 ∧ Aside0 (fullerlaw10_GraphShifts.j3 kq l0 a1 t534 x6_2 x86_34 = some r) ∧ Aside0 (kq ≤ k2) ∧ Aside0 (Kd.V k35 35 wc w.heap.size (fun k_ => (P0_ k_ ∨ w.heap.size ≤ k_) ∧ some k_ ≠ (u6 : Value).ownBlock) (.slice A0 l0.length c0) l0) ∧ Aside0 (Kd.N k35 35 wc w.heap.size (fun k_ => (P0_ k_ ∨ w.heap.size ≤ k_)) u6 x6_2) ∧ Aside0 (Below w.heap.size w wc))
        case first =>
         have H := HC35.out
         clear HC35
         by_cases c36 : (x6_2.length : Int) > 24
         ·rw [if_pos c36] at H
          have c36b0 : decide (24 < (x6_2.length : Int)) = true := decide_eq_true c36
          have c36b1 : decide (24 < x6_2.length) = true := decide_eq_true (by omega)
          clear c36
          (first | rw [c36b0] | (simp only [i64_w, i32_w]; rw [c36b0]) | skip)
          have H' := Aside0.mk H
          clear H
          obtain ⟨Ao37, co37, eo37⟩ := Kd.N_slice HO_6.out
          subst eo37
          go_wp2
          go_meet
          case rel => exact ⟨_, (true), (by first | rfl | (simp; done) | (simp [*]; done)), H', ⟨by have := HJ3.out; have := HK2.out; first | omega | exact Nat.le_refl _⟩, ⟨mvV_ HO_0.out⟩, ⟨mvN_ HO_6.out⟩, ⟨bq0_ HB.out⟩⟩
         ·rw [if_neg c36] at H
          have c36b0 : decide (24 < (x6_2.length : Int)) = false := decide_eq_false c36
          have c36b1 : decide (24 < x6_2.length) = false := decide_eq_false (by omega)
          clear c36
          (first | rw [c36b0] | (simp only [i64_w, i32_w]; rw [c36b0]) | skip)
          by_cases c38 : a1 < 0
          ·rw [if_pos c38] at H
           have c38b0 : decide (a1 < 0) = true := decide_eq_true c38
           clear c38
           have H' := Aside0.mk H
           clear H
           obtain ⟨Ao39, co39, eo39⟩ := Kd.N_slice HO_6.out
           subst eo39
           go_wp2
           go_meet
           case rel => exact ⟨_, (true), (by first | rfl | (simp; done) | (simp [*]; done)), H', ⟨by have := HJ3.out; have := HK2.out; first | omega | exact Nat.le_refl _⟩, ⟨mvV_ HO_0.out⟩, ⟨mvN_ HO_6.out⟩, ⟨bq0_ HB.out⟩⟩
          ·rw [if_neg c38] at H
           have c38b0 : decide (a1 < 0) = false := decide_eq_false c38
           clear c38
           have H' := Aside0.mk H
           clear H
           obtain ⟨Ao40, co40, eo40⟩ := Kd.N_slice HO_6.out
           subst eo40
           go_wp2
           go_meet
           case rel => exact ⟨_, (decide (a1 ≥ (l0.length : Int))), (by first | rfl | (simp; done) | (simp [*]; done)), H', ⟨by have := HJ3.out; have := HK2.out; first | omega | exact Nat.le_refl _⟩, ⟨mvV_ HO_0.out⟩, ⟨mvN_ HO_6.out⟩, ⟨bq0_ HB.out⟩⟩
        case rest =>
         clear HC35
         try clear c1
         try clear c2
         try clear p2
         try clear c3
         try clear c5
         try clear p5
         try clear q5
         try clear hx5
         try clear p6
         try clear c7
         try clear c9
         try clear c10
         try clear c11
         try clear c15
         try clear c15b0
         try clear c16
         try clear c16b0
         try clear c22
         try clear c22b0
         try clear c23
         try clear c23b0
         try clear c24
         try clear c24b0
         try clear c25
         try clear c25b0
         try clear c26
         try clear c31
         try clear c36
         try clear c36b0
         try clear c36b1
         try clear c38
         try clear c38b0
         try clear hcz32_0
         try clear hcz32_1
         try clear hcz32_2
         try clear hfz32_0
         try clear hfz32_1
         try clear hfz32_2
         try clear hx543_0
         try clear hx543_1
         try clear hx543_2
         try clear hx544_0
         try clear hx544_1
         try clear hx544_2
         try clear hx546_0
         try clear hx546_1
         try clear hx546_2
         try clear hx547_0
         try clear hx547_1
         try clear hx547_2
         try clear hx548_0
         try clear p2
         try clear p5
         try clear p543
         try clear p544
         try clear p546
         try clear p547
         try clear p548
         try clear q5
         try clear q543
         try clear q544
         try clear q546
         try clear q547
         try clear q548
         obtain ⟨kq, x86_34, rfl, HA, HJ34, HO_0, HO_6, HB⟩ := hcut
         cases kq with
         | zero => exact absurd HA.out (by simp [fullerlaw10_GraphShifts.j3])
         | succ kj34 =>
          have H := HA.out
          clear HA
          simp only [fullerlaw10_GraphShifts.j3] at H
          by_cases c41 : x86_34 = true
          ·subst c41
           have H1 : (if t534 = true then ((graph_Check.f x6_2).bind fun t555 => (some (t555 == (decide ((x6_2.length : Int) ≤ 24))))) else (some false)) = some r := by rw [if_pos rfl] at H; exact H
           clear H
           have H := H1
           clear H1
           by_cases c42 : t534 = true
           ·subst c42
            have H1 : ((graph_Check.f x6_2).bind fun t555 => (some (t555 == (decide ((x6_2.length : Int) ≤ 24))))) = some r := by rw [if_pos rfl] at H; exact H
            clear H
            have H := H1
            clear H1
            replace H := Option.bind_eq_some_iff.mp H
            obtain ⟨t555, A430, H⟩ := H
            replace H : (some (t555 == (decide ((x6_2.length : Int) ≤ 24)))) = some r := H
            have A43 := Aside0.mk A430
            clear A430
            obtain rfl := Option.some.inj H
            obtain ⟨Ao44, co44, eo44⟩ := Kd.N_slice HO_6.out
            subst eo44
            go_wp2_with (first | (go_at_call 13; (with_reducible refine (graph_Check.calls _ _ x6_2 t555 _ ?side1 ?side2 A43.out).mono ?_); (case side1 => exact mvC_ ((Kd.N_reads' HO_6.out).2.2)); (case side2 => exact (Kd.N_reads' HO_6.out).2.1); rintro e w45 ⟨rfl, hb⟩; replace HO_0 := Aside0.mk (Kd.V_below (mvV_ HO_0.out) hb); replace HO_6 := Aside0.mk (Kd.N_below (mvN_ HO_6.out) hb); replace HB := Aside0.mk (below_step (bq0_ HB.out) hb); (try clear hb)))
            go_ret
            exact ⟨by first | rfl | (simp <;> rfl) | (simp [*] <;> rfl), bq0_ HB.out⟩
           ·replace c42 := Bool.eq_false_iff.mpr c42
            subst c42
            have H1 : (some false) = some r := by rw [if_neg (show ¬ (false = true) by decide)] at H; exact H
            clear H
            have H := H1
            clear H1
            obtain rfl := Option.some.inj H
            go_wp2
            go_ret
            exact ⟨by first | rfl | (simp <;> rfl) | (simp [*] <;> rfl), bq0_ HB.out⟩
          ·replace c41 := Bool.eq_false_iff.mpr c41
           subst c41
           have H1 : ((graph_Uses.f kj34 l0 a1).bind fun t556 => ((graph_Uses.f kj34 x6_2 a1).bind fun t559 => ((graph_Uses.f kj34 x6_2 (wrap64 (a1 + (l0.length : Int)))).bind fun t562 => (if (t562.length : Int) = (t556.length : Int) then (fullerlaw10_GraphShifts.l2 kj34 l0 t534 x6_2 t556 t559 t562 0) else (some false))))) = some r := by rw [if_neg (show ¬ (false = true) by decide)] at H; exact H
           clear H
           have H := H1
           clear H1
           replace H := Option.bind_eq_some_iff.mp H
           obtain ⟨t556, A460, H⟩ := H
           replace H : ((graph_Uses.f kj34 x6_2 a1).bind fun t559 => ((graph_Uses.f kj34 x6_2 (wrap64 (a1 + (l0.length : Int)))).bind fun t562 => (if (t562.length : Int) = (t556.length : Int) then (fullerlaw10_GraphShifts.l2 kj34 l0 t534 x6_2 t556 t559 t562 0) else (some false)))) = some r := H
           have A46 := Aside0.mk A460
           clear A460
           replace H := Option.bind_eq_some_iff.mp H
           obtain ⟨t559, A470, H⟩ := H
           replace H : ((graph_Uses.f kj34 x6_2 (wrap64 (a1 + (l0.length : Int)))).bind fun t562 => (if (t562.length : Int) = (t556.length : Int) then (fullerlaw10_GraphShifts.l2 kj34 l0 t534 x6_2 t556 t559 t562 0) else (some false))) = some r := H
           have A47 := Aside0.mk A470
           clear A470
           replace H := Option.bind_eq_some_iff.mp H
           obtain ⟨t562, A480, H⟩ := H
           replace H : (if (t562.length : Int) = (t556.length : Int) then (fullerlaw10_GraphShifts.l2 kj34 l0 t534 x6_2 t556 t559 t562 0) else (some false)) = some r := H
           have A48 := Aside0.mk A480
           clear A480
           by_cases c49 : (t562.length : Int) = (t556.length : Int)
           ·rw [if_pos c49] at H
            have c49b0 : ((t562.length : Int) == (t556.length : Int)) = true := beq_iff_eq.mpr c49
            have c49b1 : ((t562.length : Int) != (t556.length : Int)) = false := bne_eq_false_iff_eq.mpr c49
            have c49b2 : (t562.length == t556.length) = true := by first | simpa using c49 | (simp at c49 ⊢; omega)
            clear c49
            have H' := Aside0.mk H
            clear H
            go_wp2_with (first | ((with_reducible refine gate_callee (f := 20) rfl ?_); refine gL_ (some 98) Try.func20 #[.slice A0 l0.length c0, .int .i64 a1] ?_; (with_reducible refine (graph_Uses.calls kj34 _ _ l0 a1 t556 _ ?side1 ?side2 A46.out).mono ?_); (case side1 => exact mvC_ ((Kd.V_reads' HO_0.out).2.2)); (case side2 => exact (Kd.V_reads' HO_0.out).2.1); rintro e w50 ⟨v557, rfl, ho0, hb⟩; refine ⟨_, rfl, ?_⟩; have HO558 := Aside0.mk (Kd.R_lower (Kd.R_newM (M := fun k_ => (w.heap.size ≤ k_)) ho0 (below_size (bq0_ HB.out)) (fun k_ h_ => h_)) (below_size (bq0_ HB.out))); replace HO_0 := Aside0.mk (Kd.V_elder' (mvV_ HO_0.out) (Kd.R_base ho0) hb); replace HO_6 := Aside0.mk (Kd.N_elder' (mvN_ HO_6.out) (Kd.R_base ho0) hb); replace HB := Aside0.mk (below_step (bq0_ HB.out) hb); (try clear hb); (try clear ho0); obtain ⟨Ao51, co51, eo51⟩ := Kd.N_slice HO_6.out; subst eo51) | ((with_reducible refine gate_callee (f := 20) rfl ?_); refine gL_ (some 101) Try.func20 #[.slice Ao51 x6_2.length co51, .int .i64 a1] ?_; (with_reducible refine (graph_Uses.calls kj34 _ _ x6_2 a1 t559 _ ?side1 ?side2 A47.out).mono ?_); (case side1 => exact mvC_ ((Kd.N_reads' HO_6.out).2.2)); (case side2 => exact (Kd.N_reads' HO_6.out).2.1); rintro e w52 ⟨v560, rfl, ho0, hb⟩; refine ⟨_, rfl, ?_⟩; have HO561 := Aside0.mk (Kd.R_lower (Kd.R_new' (Kd.R_newM (M := fun k_ => (w.heap.size ≤ k_)) ho0 (below_size (bq0_ HB.out)) (fun k_ h_ => h_)) (Kd.R_lt (mvR_ HO558.out))) (below_size (bq0_ HB.out))); replace HO_0 := Aside0.mk (Kd.V_elder' (mvV_ HO_0.out) (Kd.R_base ho0) hb); replace HO_6 := Aside0.mk (Kd.N_elder' (mvN_ HO_6.out) (Kd.R_base ho0) hb); replace HO558 := Aside0.mk (Kd.R_elder' (mvR_ HO558.out) (Kd.R_base ho0) hb); replace HB := Aside0.mk (below_step (bq0_ HB.out) hb); (try clear hb); (try clear ho0)) | ((with_reducible refine gate_callee (f := 20) rfl ?_); refine gL_ (some 107) Try.func20 #[.slice Ao51 x6_2.length co51, .int .i64 (wrap64 (a1 + (l0.length : Int)))] ?_; (with_reducible refine (graph_Uses.calls kj34 _ _ x6_2 (wrap64 (a1 + (l0.length : Int))) t562 _ ?side1 ?side2 A48.out).mono ?_); (case side1 => exact mvC_ ((Kd.N_reads' HO_6.out).2.2)); (case side2 => exact (Kd.N_reads' HO_6.out).2.1); rintro e w53 ⟨v563, rfl, ho0, hb⟩; refine ⟨_, rfl, ?_⟩; have HO564 := Aside0.mk (Kd.R_lower (Kd.R_new' (Kd.R_new' (Kd.R_newM (M := fun k_ => (w.heap.size ≤ k_)) ho0 (below_size (bq0_ HB.out)) (fun k_ h_ => h_)) (Kd.R_lt (mvR_ HO558.out))) (Kd.R_lt (mvR_ HO561.out))) (below_size (bq0_ HB.out))); replace HO_0 := Aside0.mk (Kd.V_elder' (mvV_ HO_0.out) (Kd.R_base ho0) hb); replace HO_6 := Aside0.mk (Kd.N_elder' (mvN_ HO_6.out) (Kd.R_base ho0) hb); replace HO558 := Aside0.mk (Kd.R_elder' (mvR_ HO558.out) (Kd.R_base ho0) hb); replace HO561 := Aside0.mk (Kd.R_elder' (mvR_ HO561.out) (Kd.R_base ho0) hb); replace HB := Aside0.mk (below_step (bq0_ HB.out) hb); (try clear hb); (try clear ho0); obtain ⟨Ao54, co54, eo54⟩ := Kd.R_slice HO564.out; subst eo54; obtain ⟨Ao55, co55, eo55⟩ := Kd.R_slice HO558.out; subst eo55))
            go_loopg [13] kj34 (fun kq v13 w' => ∃ (x13_4 : Int), v13 = .int .i64 x13_4 ∧ Aside0 (fullerlaw10_GraphShifts.l2 kq l0 t534 x6_2 t556 t559 t562 x13_4 = some r) ∧ Aside0 (kq ≤ kj34) ∧ Aside0 (Kd.V k35 35 w' w.heap.size (fun k_ => (P0_ k_ ∨ w.heap.size ≤ k_) ∧ some k_ ≠ ((.slice Ao51 x6_2.length co51) : Value).ownBlock ∧ some k_ ≠ ((.slice Ao55 t556.length co55) : Value).ownBlock ∧ some k_ ≠ (v560 : Value).ownBlock ∧ some k_ ≠ ((.slice Ao54 t562.length co54) : Value).ownBlock) (.slice A0 l0.length c0) l0) ∧ Aside0 (Kd.N k35 35 w' w.heap.size (fun k_ => (P0_ k_ ∨ w.heap.size ≤ k_) ∧ some k_ ≠ ((.slice Ao55 t556.length co55) : Value).ownBlock ∧ some k_ ≠ (v560 : Value).ownBlock ∧ some k_ ≠ ((.slice Ao54 t562.length co54) : Value).ownBlock) (.slice Ao51 x6_2.length co51) x6_2) ∧ Aside0 (Kd.R (Kd.int .i64) 3 w' w.heap.size (fun k_ => (w.heap.size ≤ k_) ∧ some k_ ≠ (v560 : Value).ownBlock ∧ some k_ ≠ ((.slice Ao54 t562.length co54) : Value).ownBlock) (.slice Ao55 t556.length co55) t556) ∧ Aside0 (Kd.R (Kd.int .i64) 3 w' w.heap.size (fun k_ => (w.heap.size ≤ k_) ∧ some k_ ≠ ((.slice Ao55 t556.length co55) : Value).ownBlock ∧ some k_ ≠ ((.slice Ao54 t562.length co54) : Value).ownBlock) v560 t559) ∧ Aside0 (Kd.R (Kd.int .i64) 3 w' w.heap.size (fun k_ => (w.heap.size ≤ k_) ∧ some k_ ≠ ((.slice Ao55 t556.length co55) : Value).ownBlock ∧ some k_ ≠ (v560 : Value).ownBlock) (.slice Ao54 t562.length co54) t562) ∧ Aside0 (Below w.heap.size w w'))
            case atStart => exact ⟨(0), (by first | rfl | (simp; done) | (simp [*]; done)), H', ⟨Nat.le_refl _⟩, ⟨by (with_reducible repeat (first | apply Kd.V_alloc | apply Kd.V_drewN | apply Kd.V_drew)); exact Kd.V_mono HO_0.out (fun _ hk => ⟨hk.1.1.1.1, ⟨hk.1.1.1.2, ⟨hk.1.1.2, ⟨hk.1.2, hk.2⟩⟩⟩⟩)⟩, ⟨by (with_reducible repeat (first | apply Kd.N_alloc | apply Kd.N_drewN | apply Kd.N_drew)); exact Kd.N_mono HO_6.out (fun _ hk => ⟨hk.1.1.1, ⟨hk.1.1.2, ⟨hk.1.2, hk.2⟩⟩⟩)⟩, ⟨by (with_reducible repeat (first | apply Kd.R_alloc | apply Kd.R_drewN | apply Kd.R_drew)); exact Kd.R_mono HO558.out (fun _ hk => ⟨hk.1.1.1, ⟨hk.1.2, hk.2⟩⟩)⟩, ⟨by (with_reducible repeat (first | apply Kd.R_alloc | apply Kd.R_drewN | apply Kd.R_drew)); exact Kd.R_mono HO561.out (fun _ hk => ⟨hk.1.1.1, ⟨hk.1.2, hk.2⟩⟩)⟩, ⟨by (with_reducible repeat (first | apply Kd.R_alloc | apply Kd.R_drewN | apply Kd.R_drew)); exact Kd.R_mono HO564.out (fun _ hk => ⟨hk.1.1.1, ⟨hk.1.2, hk.2⟩⟩)⟩, ⟨bq0_ HB.out⟩⟩
            case round =>
             clear H'
             try clear c1
             try clear c2
             try clear p2
             try clear c3
             try clear c4
             try clear c5
             try clear p5
             try clear q5
             try clear hx5
             try clear p6
             try clear c7
             try clear c9
             try clear c10
             try clear c11
             try clear c15
             try clear c15b0
             try clear c16
             try clear c16b0
             try clear c20
             try clear c22
             try clear c22b0
             try clear c23
             try clear c23b0
             try clear c24
             try clear c24b0
             try clear c25
             try clear c25b0
             try clear c26
             try clear c31
             try clear c36
             try clear c36b0
             try clear c36b1
             try clear c38
             try clear c38b0
             try clear c41
             try clear c42
             try clear c49
             try clear c49b0
             try clear c49b1
             try clear c49b2
             try clear c54
             try clear p54
             try clear q54
             try clear hx54
             try clear hcz32_0
             try clear hcz32_1
             try clear hcz32_2
             try clear hfz32_0
             try clear hfz32_1
             try clear hfz32_2
             try clear hx543_0
             try clear hx543_1
             try clear hx543_2
             try clear hx544_0
             try clear hx544_1
             try clear hx544_2
             try clear hx546_0
             try clear hx546_1
             try clear hx546_2
             try clear hx547_0
             try clear hx547_1
             try clear hx547_2
             try clear hx548_0
             try clear p2
             try clear p5
             try clear p543
             try clear p544
             try clear p546
             try clear p547
             try clear p548
             try clear p6
             try clear q5
             try clear q543
             try clear q544
             try clear q546
             try clear q547
             try clear q548
             obtain ⟨x13_4, rfl, HA, HK4, HO_0, HO_6, HO_10, HO_11, HO_12, HB⟩ := hrel
             cases gk with
             | zero => exact absurd HA.out (by simp [fullerlaw10_GraphShifts.l2])
             | succ k4 =>
              have H := HA.out
              clear HA
              simp only [fullerlaw10_GraphShifts.l2] at H
              by_cases c56 : x13_4 < (t556.length : Int)
              ·rw [if_pos c56] at H
               have c56b0 : decide (x13_4 < (t556.length : Int)) = true := decide_eq_true c56
               clear c56
               by_cases c57 : 0 ≤ x13_4
               ·rw [if_pos c57] at H
                have c57b0 : decide (0 ≤ x13_4) = true := decide_eq_true c57
                clear c57
                by_cases c58 : x13_4 < (t562.length : Int)
                ·rw [if_pos c58] at H
                 have c58b0 : decide (x13_4 < (t562.length : Int)) = true := decide_eq_true c58
                 clear c58
                 by_cases c59 : (rd t562 x13_4) = (wrap64 ((rd t556 x13_4) + (l0.length : Int)))
                 ·rw [if_pos c59] at H
                  obtain ⟨c59b0, c59b1⟩ := eqT_ c59
                  clear c59
                  have H' := Aside0.mk H
                  clear H
                  try go_wp2
                  replace HO_0 := Aside0.mk (Kd.V_drew HO_0.out)
                  replace HO_6 := Aside0.mk (Kd.N_drew HO_6.out)
                  replace HO_10 := Aside0.mk (Kd.R_drew HO_10.out)
                  replace HO_11 := Aside0.mk (Kd.R_drew HO_11.out)
                  replace HO_12 := Aside0.mk (Kd.R_drew HO_12.out)
                  replace HB := Aside0.mk (below_drew1 HB.out)
                  have p565 : 0 ≤ (x13_4 : Int) := od_
                  have q565 : x13_4 < (t562.length : Int) := od_
                  obtain ⟨ad565, e565, hx565_0⟩ := Kd.at_int (Kd.R_reads' HO_12.out).2.2 x13_4 p565 q565
                  cases e565
                  replace p565 := eq_true p565
                  replace q565 := eq_true q565
                  have p566 : 0 ≤ (x13_4 : Int) := od_
                  have q566 : x13_4 < (t556.length : Int) := od_
                  obtain ⟨ad566, e566, hx566_0⟩ := Kd.at_int (Kd.R_reads' HO_10.out).2.2 x13_4 p566 q566
                  cases e566
                  replace p566 := eq_true p566
                  replace q566 := eq_true q566
                  refine start_ (n := 12) (S := fun w' => w'.cell? (ad565.add (x13_4).toNat) = some (.int .i64 (rd t562 x13_4)) ∧ w'.cell? (ad566.add (x13_4).toNat) = some (.int .i64 (rd t556 x13_4))) (ds := []) L7_32 (by kernel_rfl) rfl rfl ⟨hx565_0, hx566_0⟩ (fun hHeld => ?_); refine with_tabW fullerlaw10_GraphShifts.tab24 fullerlaw10_GraphShifts.bits24 (fun HT_ HW_ => ?_)
                  generalize wr.drew = w60 at HO_0 HO_6 HO_10 HO_11 HO_12 HB hx565_0 hx566_0 hHeld ⊢
                  refine pu_ 0 (some 119) L7_33 HT_ ?_
                  refine pu_ 1 (some 120) L7_34 HT_ ?_
                  refine pu_ 2 (some 121) L7_35 HT_ ?_
                  refine pu_ 4 (some 123) L7_36 HT_ ?_
                  refine pu_ 5 (some 124) L7_37 HT_ ?_
                  refine pu_ 6 (some 125) L7_38 HT_ ?_
                  refine pu_ 8 (some 127) L7_39 HT_ ?_
                  refine pu_ 9 (some 128) L7_40 HT_ ?_
                  refine ta_ 3 (some 122) L7_41 HT_ HW_ hHeld ?_ (hy := by rintro w' ⟨s0, s1⟩; go_simp; with_reducible rfl)
                  refine ta_ 7 (some 126) L7_42 HT_ HW_ hHeld ?_ (hy := by rintro w' ⟨s0, s1⟩; go_simp; with_reducible rfl)
                  refine pu_ 10 (some 129) L7_43 HT_ ?_
                  refine pu_ 11 (some 130) L7_44 HT_ ?_
                  refine done_ (done_of HT_.out (by kernel_rfl)) ?_
                  try go_wp2
                  go_roundg k4
                  case measure => have := HJ3.out; have := HK2.out; have := HJ34.out; have := HK4.out; omega
                  case rel => exact ⟨(wrap64 (x13_4 + 1)), (by first | rfl | (simp; done) | (simp [*]; done)), H', ⟨by have := HJ3.out; have := HK2.out; have := HJ34.out; have := HK4.out; omega⟩, ⟨mvV_ HO_0.out⟩, ⟨mvN_ HO_6.out⟩, ⟨mvR_ HO_10.out⟩, ⟨mvR_ HO_11.out⟩, ⟨mvR_ HO_12.out⟩, ⟨bq0_ HB.out⟩⟩
                 ·rw [if_neg c59] at H
                  have c59b0 : ((rd t562 x13_4) == (wrap64 ((rd t556 x13_4) + (l0.length : Int)))) = false := beq_eq_false_iff_ne.mpr c59
                  have c59b1 : ((rd t562 x13_4) != (wrap64 ((rd t556 x13_4) + (l0.length : Int)))) = true := bne_iff_ne.mpr c59
                  obtain rfl := Option.some.inj H
                  try go_wp2
                  replace HO_0 := Aside0.mk (Kd.V_drew HO_0.out)
                  replace HO_6 := Aside0.mk (Kd.N_drew HO_6.out)
                  replace HO_10 := Aside0.mk (Kd.R_drew HO_10.out)
                  replace HO_11 := Aside0.mk (Kd.R_drew HO_11.out)
                  replace HO_12 := Aside0.mk (Kd.R_drew HO_12.out)
                  replace HB := Aside0.mk (below_drew1 HB.out)
                  have p565 : 0 ≤ (x13_4 : Int) := od_
                  have q565 : x13_4 < (t562.length : Int) := od_
                  obtain ⟨ad565, e565, hx565_0⟩ := Kd.at_int (Kd.R_reads' HO_12.out).2.2 x13_4 p565 q565
                  cases e565
                  replace p565 := eq_true p565
                  replace q565 := eq_true q565
                  have p566 : 0 ≤ (x13_4 : Int) := od_
                  have q566 : x13_4 < (t556.length : Int) := od_
                  obtain ⟨ad566, e566, hx566_0⟩ := Kd.at_int (Kd.R_reads' HO_10.out).2.2 x13_4 p566 q566
                  cases e566
                  replace p566 := eq_true p566
                  replace q566 := eq_true q566
                  refine start_ (n := 12) (S := fun w' => w'.cell? (ad565.add (x13_4).toNat) = some (.int .i64 (rd t562 x13_4)) ∧ w'.cell? (ad566.add (x13_4).toNat) = some (.int .i64 (rd t556 x13_4))) (ds := []) L7_32 (by kernel_rfl) rfl rfl ⟨hx565_0, hx566_0⟩ (fun hHeld => ?_); refine with_tabW fullerlaw10_GraphShifts.tab24 fullerlaw10_GraphShifts.bits24 (fun HT_ HW_ => ?_)
                  generalize wr.drew = w61 at HO_0 HO_6 HO_10 HO_11 HO_12 HB hx565_0 hx566_0 hHeld ⊢
                  refine pu_ 0 (some 119) L7_33 HT_ ?_
                  refine pu_ 1 (some 120) L7_34 HT_ ?_
                  refine pu_ 2 (some 121) L7_35 HT_ ?_
                  refine pu_ 4 (some 123) L7_36 HT_ ?_
                  refine pu_ 5 (some 124) L7_37 HT_ ?_
                  refine pu_ 6 (some 125) L7_38 HT_ ?_
                  refine pu_ 8 (some 127) L7_39 HT_ ?_
                  refine pu_ 9 (some 128) L7_40 HT_ ?_
                  refine ta_ 3 (some 122) L7_41 HT_ HW_ hHeld ?_ (hy := by rintro w' ⟨s0, s1⟩; go_simp; with_reducible rfl)
                  refine ta_ 7 (some 126) L7_42 HT_ HW_ hHeld ?_ (hy := by rintro w' ⟨s0, s1⟩; go_simp; with_reducible rfl)
                  refine pu_ 10 (some 129) L7_43 HT_ ?_
                  refine pu_ 11 (some 130) L7_44 HT_ ?_
                  refine done_ (done_of HT_.out (by kernel_rfl)) ?_
                  try go_wp2
                  go_ret
                  exact ⟨by first | rfl | (simp <;> rfl) | (simp [*] <;> rfl), bq0_ HB.out⟩
                ·rw [if_neg c58] at H
                 exact absurd H (by simp)
               ·rw [if_neg c57] at H
                exact absurd H (by simp)
              ·rw [if_neg c56] at H
               have c56b0 : decide (x13_4 < (t556.length : Int)) = false := decide_eq_false c56
               clear c56
               by_cases c62 : t534 = true
               ·subst c62
                have H1 : ((graph_Check.f x6_2).bind fun t567 => (if t567 = true then ((fullerref02_Same.f k4 t556 t559).bind fun t568 => (if t568 = true then ((graph_Live.f x6_2).bind fun t569 => ((graph_Live.f l0).bind fun t572 => (if (t569.length : Int) = (t572.length : Int) then ((graph_Params.f k4 x6_2).bind fun t575 => ((graph_Params.f k4 l0).bind fun t578 => ((fullerref02_Same.f k4 t575 t578).bind fun t581 => (some t581)))) else (some false)))) else (some false))) else (some false))) = some r := by rw [if_pos rfl] at H; exact H
                clear H
                have H := H1
                clear H1
                replace H := Option.bind_eq_some_iff.mp H
                obtain ⟨t567, A630, H⟩ := H
                replace H : (if t567 = true then ((fullerref02_Same.f k4 t556 t559).bind fun t568 => (if t568 = true then ((graph_Live.f x6_2).bind fun t569 => ((graph_Live.f l0).bind fun t572 => (if (t569.length : Int) = (t572.length : Int) then ((graph_Params.f k4 x6_2).bind fun t575 => ((graph_Params.f k4 l0).bind fun t578 => ((fullerref02_Same.f k4 t575 t578).bind fun t581 => (some t581)))) else (some false)))) else (some false))) else (some false)) = some r := H
                have A63 := Aside0.mk A630
                clear A630
                by_cases c64 : t567 = true
                ·subst c64
                 have H1 : ((fullerref02_Same.f k4 t556 t559).bind fun t568 => (if t568 = true then ((graph_Live.f x6_2).bind fun t569 => ((graph_Live.f l0).bind fun t572 => (if (t569.length : Int) = (t572.length : Int) then ((graph_Params.f k4 x6_2).bind fun t575 => ((graph_Params.f k4 l0).bind fun t578 => ((fullerref02_Same.f k4 t575 t578).bind fun t581 => (some t581)))) else (some false)))) else (some false))) = some r := by rw [if_pos rfl] at H; exact H
                 clear H
                 have H := H1
                 clear H1
                 replace H := Option.bind_eq_some_iff.mp H
                 obtain ⟨t568, A650, H⟩ := H
                 replace H : (if t568 = true then ((graph_Live.f x6_2).bind fun t569 => ((graph_Live.f l0).bind fun t572 => (if (t569.length : Int) = (t572.length : Int) then ((graph_Params.f k4 x6_2).bind fun t575 => ((graph_Params.f k4 l0).bind fun t578 => ((fullerref02_Same.f k4 t575 t578).bind fun t581 => (some t581)))) else (some false)))) else (some false)) = some r := H
                 have A65 := Aside0.mk A650
                 clear A650
                 by_cases c66 : t568 = true
                 ·subst c66
                  have H1 : ((graph_Live.f x6_2).bind fun t569 => ((graph_Live.f l0).bind fun t572 => (if (t569.length : Int) = (t572.length : Int) then ((graph_Params.f k4 x6_2).bind fun t575 => ((graph_Params.f k4 l0).bind fun t578 => ((fullerref02_Same.f k4 t575 t578).bind fun t581 => (some t581)))) else (some false)))) = some r := by rw [if_pos rfl] at H; exact H
                  clear H
                  have H := H1
                  clear H1
                  replace H := Option.bind_eq_some_iff.mp H
                  obtain ⟨t569, A670, H⟩ := H
                  replace H : ((graph_Live.f l0).bind fun t572 => (if (t569.length : Int) = (t572.length : Int) then ((graph_Params.f k4 x6_2).bind fun t575 => ((graph_Params.f k4 l0).bind fun t578 => ((fullerref02_Same.f k4 t575 t578).bind fun t581 => (some t581)))) else (some false))) = some r := H
                  have A67 := Aside0.mk A670
                  clear A670
                  replace H := Option.bind_eq_some_iff.mp H
                  obtain ⟨t572, A680, H⟩ := H
                  replace H : (if (t569.length : Int) = (t572.length : Int) then ((graph_Params.f k4 x6_2).bind fun t575 => ((graph_Params.f k4 l0).bind fun t578 => ((fullerref02_Same.f k4 t575 t578).bind fun t581 => (some t581)))) else (some false)) = some r := H
                  have A68 := Aside0.mk A680
                  clear A680
                  by_cases c69 : (t569.length : Int) = (t572.length : Int)
                  ·rw [if_pos c69] at H
                   have c69b0 : ((t569.length : Int) == (t572.length : Int)) = true := beq_iff_eq.mpr c69
                   have c69b1 : ((t569.length : Int) != (t572.length : Int)) = false := bne_eq_false_iff_eq.mpr c69
                   have c69b2 : (t569.length == t572.length) = true := by first | simpa using c69 | (simp at c69 ⊢; omega)
                   clear c69
                   replace H := Option.bind_eq_some_iff.mp H
                   obtain ⟨t575, A700, H⟩ := H
                   replace H : ((graph_Params.f k4 l0).bind fun t578 => ((fullerref02_Same.f k4 t575 t578).bind fun t581 => (some t581))) = some r := H
                   have A70 := Aside0.mk A700
                   clear A700
                   replace H := Option.bind_eq_some_iff.mp H
                   obtain ⟨t578, A710, H⟩ := H
                   replace H : ((fullerref02_Same.f k4 t575 t578).bind fun t581 => (some t581)) = some r := H
                   have A71 := Aside0.mk A710
                   clear A710
                   replace H := Option.bind_eq_some_iff.mp H
                   obtain ⟨t581, A720, H⟩ := H
                   replace H : (some t581) = some r := H
                   have A72 := Aside0.mk A720
                   clear A720
                   obtain rfl := Option.some.inj H
                   go_wp2_with (first | (go_at_call 13; (with_reducible refine (graph_Check.calls _ _ x6_2 true _ ?side1 ?side2 A63.out).mono ?_); (case side1 => exact mvC_ ((Kd.N_reads' HO_6.out).2.2)); (case side2 => exact (Kd.N_reads' HO_6.out).2.1); rintro e w73 ⟨rfl, hb⟩; replace HO_0 := Aside0.mk (Kd.V_below (mvV_ HO_0.out) hb); replace HO_6 := Aside0.mk (Kd.N_below (mvN_ HO_6.out) hb); replace HO_10 := Aside0.mk (Kd.R_below (mvR_ HO_10.out) hb); replace HO_11 := Aside0.mk (Kd.R_below (mvR_ HO_11.out) hb); replace HO_12 := Aside0.mk (Kd.R_below (mvR_ HO_12.out) hb); replace HB := Aside0.mk (below_step (bq0_ HB.out) hb); (try clear hb); obtain ⟨Ao74, co74, eo74⟩ := Kd.R_slice HO_11.out; subst eo74) | (go_at_call 17; (with_reducible refine (fullerref02_Same.calls k4 _ _ t556 _ _ t559 true _ ?side1 ?side2 ?side3 ?side4 A65.out).mono ?_); (case side1 => exact mvC_ ((Kd.R_reads' HO_10.out).2.2)); (case side2 => exact (Kd.R_reads' HO_10.out).2.1); (case side3 => exact mvC_ ((Kd.R_reads' HO_11.out).2.2)); (case side4 => exact (Kd.R_reads' HO_11.out).2.1); rintro e w' ⟨rfl, ⟨nd, rfl⟩⟩) | (go_at_call 22; (with_reducible refine (graph_Live.calls _ _ x6_2 t569 _ ?side1 ?side2 A67.out).mono ?_); (case side1 => exact mvC_ ((Kd.N_reads' HO_6.out).2.2)); (case side2 => exact (Kd.N_reads' HO_6.out).2.1); rintro e w75 ⟨v570, rfl, ho0, hb⟩; have HO571 := Aside0.mk (Kd.R_lower (Kd.R_new' (Kd.R_new' (Kd.R_new' (Kd.R_newM (M := fun k_ => (w.heap.size ≤ k_)) ho0 (below_size (bq0_ HB.out)) (fun k_ h_ => h_)) (Kd.R_lt (mvR_ HO_10.out))) (Kd.R_lt (mvR_ HO_11.out))) (Kd.R_lt (mvR_ HO_12.out))) (below_size (bq0_ HB.out))); replace HO_0 := Aside0.mk (Kd.V_elder' (mvV_ HO_0.out) (Kd.R_base ho0) hb); replace HO_6 := Aside0.mk (Kd.N_elder' (mvN_ HO_6.out) (Kd.R_base ho0) hb); replace HO_10 := Aside0.mk (Kd.R_elder' (mvR_ HO_10.out) (Kd.R_base ho0) hb); replace HO_11 := Aside0.mk (Kd.R_elder' (mvR_ HO_11.out) (Kd.R_base ho0) hb); replace HO_12 := Aside0.mk (Kd.R_elder' (mvR_ HO_12.out) (Kd.R_base ho0) hb); replace HB := Aside0.mk (below_step (bq0_ HB.out) hb); (try clear hb); (try clear ho0); obtain ⟨Ao76, co76, eo76⟩ := Kd.R_slice HO571.out; subst eo76) | (go_at_call 22; (with_reducible refine (graph_Live.calls _ _ l0 t572 _ ?side1 ?side2 A68.out).mono ?_); (case side1 => exact mvC_ ((Kd.V_reads' HO_0.out).2.2)); (case side2 => exact (Kd.V_reads' HO_0.out).2.1); rintro e w77 ⟨v573, rfl, ho0, hb⟩; have HO574 := Aside0.mk (Kd.R_lower (Kd.R_new' (Kd.R_new' (Kd.R_new' (Kd.R_new' (Kd.R_newM (M := fun k_ => (w.heap.size ≤ k_)) ho0 (below_size (bq0_ HB.out)) (fun k_ h_ => h_)) (Kd.R_lt (mvR_ HO_10.out))) (Kd.R_lt (mvR_ HO_11.out))) (Kd.R_lt (mvR_ HO_12.out))) (Kd.R_lt (mvR_ HO571.out))) (below_size (bq0_ HB.out))); replace HO_0 := Aside0.mk (Kd.V_elder' (mvV_ HO_0.out) (Kd.R_base ho0) hb); replace HO_6 := Aside0.mk (Kd.N_elder' (mvN_ HO_6.out) (Kd.R_base ho0) hb); replace HO_10 := Aside0.mk (Kd.R_elder' (mvR_ HO_10.out) (Kd.R_base ho0) hb); replace HO_11 := Aside0.mk (Kd.R_elder' (mvR_ HO_11.out) (Kd.R_base ho0) hb); replace HO_12 := Aside0.mk (Kd.R_elder' (mvR_ HO_12.out) (Kd.R_base ho0) hb); replace HO571 := Aside0.mk (Kd.R_elder' (mvR_ HO571.out) (Kd.R_base ho0) hb); replace HB := Aside0.mk (below_step (bq0_ HB.out) hb); (try clear hb); (try clear ho0); obtain ⟨Ao78, co78, eo78⟩ := Kd.R_slice HO574.out; subst eo78) | (go_at_call 18; (with_reducible refine (graph_Params.calls k4 _ _ x6_2 t575 _ ?side1 ?side2 A70.out).mono ?_); (case side1 => exact mvC_ ((Kd.N_reads' HO_6.out).2.2)); (case side2 => exact (Kd.N_reads' HO_6.out).2.1); rintro e w79 ⟨v576, rfl, ho0, hb⟩; have HO577 := Aside0.mk (Kd.R_lower (Kd.R_new' (Kd.R_new' (Kd.R_new' (Kd.R_new' (Kd.R_new' (Kd.R_newM (M := fun k_ => (w.heap.size ≤ k_)) ho0 (below_size (bq0_ HB.out)) (fun k_ h_ => h_)) (Kd.R_lt (mvR_ HO_10.out))) (Kd.R_lt (mvR_ HO_11.out))) (Kd.R_lt (mvR_ HO_12.out))) (Kd.R_lt (mvR_ HO571.out))) (Kd.R_lt (mvR_ HO574.out))) (below_size (bq0_ HB.out))); replace HO_0 := Aside0.mk (Kd.V_elder' (mvV_ HO_0.out) (Kd.R_base ho0) hb); replace HO_6 := Aside0.mk (Kd.N_elder' (mvN_ HO_6.out) (Kd.R_base ho0) hb); replace HO_10 := Aside0.mk (Kd.R_elder' (mvR_ HO_10.out) (Kd.R_base ho0) hb); replace HO_11 := Aside0.mk (Kd.R_elder' (mvR_ HO_11.out) (Kd.R_base ho0) hb); replace HO_12 := Aside0.mk (Kd.R_elder' (mvR_ HO_12.out) (Kd.R_base ho0) hb); replace HO571 := Aside0.mk (Kd.R_elder' (mvR_ HO571.out) (Kd.R_base ho0) hb); replace HO574 := Aside0.mk (Kd.R_elder' (mvR_ HO574.out) (Kd.R_base ho0) hb); replace HB := Aside0.mk (below_step (bq0_ HB.out) hb); (try clear hb); (try clear ho0)) | (go_at_call 18; (with_reducible refine (graph_Params.calls k4 _ _ l0 t578 _ ?side1 ?side2 A71.out).mono ?_); (case side1 => exact mvC_ ((Kd.V_reads' HO_0.out).2.2)); (case side2 => exact (Kd.V_reads' HO_0.out).2.1); rintro e w80 ⟨v579, rfl, ho0, hb⟩; have HO580 := Aside0.mk (Kd.R_lower (Kd.R_new' (Kd.R_new' (Kd.R_new' (Kd.R_new' (Kd.R_new' (Kd.R_new' (Kd.R_newM (M := fun k_ => (w.heap.size ≤ k_)) ho0 (below_size (bq0_ HB.out)) (fun k_ h_ => h_)) (Kd.R_lt (mvR_ HO_10.out))) (Kd.R_lt (mvR_ HO_11.out))) (Kd.R_lt (mvR_ HO_12.out))) (Kd.R_lt (mvR_ HO571.out))) (Kd.R_lt (mvR_ HO574.out))) (Kd.R_lt (mvR_ HO577.out))) (below_size (bq0_ HB.out))); replace HO_0 := Aside0.mk (Kd.V_elder' (mvV_ HO_0.out) (Kd.R_base ho0) hb); replace HO_6 := Aside0.mk (Kd.N_elder' (mvN_ HO_6.out) (Kd.R_base ho0) hb); replace HO_10 := Aside0.mk (Kd.R_elder' (mvR_ HO_10.out) (Kd.R_base ho0) hb); replace HO_11 := Aside0.mk (Kd.R_elder' (mvR_ HO_11.out) (Kd.R_base ho0) hb); replace HO_12 := Aside0.mk (Kd.R_elder' (mvR_ HO_12.out) (Kd.R_base ho0) hb); replace HO571 := Aside0.mk (Kd.R_elder' (mvR_ HO571.out) (Kd.R_base ho0) hb); replace HO574 := Aside0.mk (Kd.R_elder' (mvR_ HO574.out) (Kd.R_base ho0) hb); replace HO577 := Aside0.mk (Kd.R_elder' (mvR_ HO577.out) (Kd.R_base ho0) hb); replace HB := Aside0.mk (below_step (bq0_ HB.out) hb); (try clear hb); (try clear ho0); obtain ⟨Ao81, co81, eo81⟩ := Kd.R_slice HO577.out; subst eo81; obtain ⟨Ao82, co82, eo82⟩ := Kd.R_slice HO580.out; subst eo82) | (go_at_call 17; (with_reducible refine (fullerref02_Same.calls k4 _ _ t575 _ _ t578 t581 _ ?side1 ?side2 ?side3 ?side4 A72.out).mono ?_); (case side1 => exact mvC_ ((Kd.R_reads' HO577.out).2.2)); (case side2 => exact (Kd.R_reads' HO577.out).2.1); (case side3 => exact mvC_ ((Kd.R_reads' HO580.out).2.2)); (case side4 => exact (Kd.R_reads' HO580.out).2.1); rintro e w' ⟨rfl, ⟨nd, rfl⟩⟩))
                   go_ret
                   exact ⟨by first | rfl | (simp <;> rfl) | (simp [*] <;> rfl), bq0_ HB.out⟩
                  ·rw [if_neg c69] at H
                   have c69b0 : ((t569.length : Int) == (t572.length : Int)) = false := beq_eq_false_iff_ne.mpr c69
                   have c69b1 : ((t569.length : Int) != (t572.length : Int)) = true := bne_iff_ne.mpr c69
                   have c69b2 : (t569.length == t572.length) = false := by first | simpa using c69 | (simp at c69 ⊢; omega)
                   obtain rfl := Option.some.inj H
                   go_wp2_with (first | (go_at_call 13; (with_reducible refine (graph_Check.calls _ _ x6_2 true _ ?side1 ?side2 A63.out).mono ?_); (case side1 => exact mvC_ ((Kd.N_reads' HO_6.out).2.2)); (case side2 => exact (Kd.N_reads' HO_6.out).2.1); rintro e w83 ⟨rfl, hb⟩; replace HO_0 := Aside0.mk (Kd.V_below (mvV_ HO_0.out) hb); replace HO_6 := Aside0.mk (Kd.N_below (mvN_ HO_6.out) hb); replace HO_10 := Aside0.mk (Kd.R_below (mvR_ HO_10.out) hb); replace HO_11 := Aside0.mk (Kd.R_below (mvR_ HO_11.out) hb); replace HO_12 := Aside0.mk (Kd.R_below (mvR_ HO_12.out) hb); replace HB := Aside0.mk (below_step (bq0_ HB.out) hb); (try clear hb); obtain ⟨Ao84, co84, eo84⟩ := Kd.R_slice HO_11.out; subst eo84) | (go_at_call 17; (with_reducible refine (fullerref02_Same.calls k4 _ _ t556 _ _ t559 true _ ?side1 ?side2 ?side3 ?side4 A65.out).mono ?_); (case side1 => exact mvC_ ((Kd.R_reads' HO_10.out).2.2)); (case side2 => exact (Kd.R_reads' HO_10.out).2.1); (case side3 => exact mvC_ ((Kd.R_reads' HO_11.out).2.2)); (case side4 => exact (Kd.R_reads' HO_11.out).2.1); rintro e w' ⟨rfl, ⟨nd, rfl⟩⟩) | (go_at_call 22; (with_reducible refine (graph_Live.calls _ _ x6_2 t569 _ ?side1 ?side2 A67.out).mono ?_); (case side1 => exact mvC_ ((Kd.N_reads' HO_6.out).2.2)); (case side2 => exact (Kd.N_reads' HO_6.out).2.1); rintro e w85 ⟨v570, rfl, ho0, hb⟩; have HO571 := Aside0.mk (Kd.R_lower (Kd.R_new' (Kd.R_new' (Kd.R_new' (Kd.R_newM (M := fun k_ => (w.heap.size ≤ k_)) ho0 (below_size (bq0_ HB.out)) (fun k_ h_ => h_)) (Kd.R_lt (mvR_ HO_10.out))) (Kd.R_lt (mvR_ HO_11.out))) (Kd.R_lt (mvR_ HO_12.out))) (below_size (bq0_ HB.out))); replace HO_0 := Aside0.mk (Kd.V_elder' (mvV_ HO_0.out) (Kd.R_base ho0) hb); replace HO_6 := Aside0.mk (Kd.N_elder' (mvN_ HO_6.out) (Kd.R_base ho0) hb); replace HO_10 := Aside0.mk (Kd.R_elder' (mvR_ HO_10.out) (Kd.R_base ho0) hb); replace HO_11 := Aside0.mk (Kd.R_elder' (mvR_ HO_11.out) (Kd.R_base ho0) hb); replace HO_12 := Aside0.mk (Kd.R_elder' (mvR_ HO_12.out) (Kd.R_base ho0) hb); replace HB := Aside0.mk (below_step (bq0_ HB.out) hb); (try clear hb); (try clear ho0); obtain ⟨Ao86, co86, eo86⟩ := Kd.R_slice HO571.out; subst eo86) | (go_at_call 22; (with_reducible refine (graph_Live.calls _ _ l0 t572 _ ?side1 ?side2 A68.out).mono ?_); (case side1 => exact mvC_ ((Kd.V_reads' HO_0.out).2.2)); (case side2 => exact (Kd.V_reads' HO_0.out).2.1); rintro e w87 ⟨v573, rfl, ho0, hb⟩; have HO574 := Aside0.mk (Kd.R_lower (Kd.R_new' (Kd.R_new' (Kd.R_new' (Kd.R_new' (Kd.R_newM (M := fun k_ => (w.heap.size ≤ k_)) ho0 (below_size (bq0_ HB.out)) (fun k_ h_ => h_)) (Kd.R_lt (mvR_ HO_10.out))) (Kd.R_lt (mvR_ HO_11.out))) (Kd.R_lt (mvR_ HO_12.out))) (Kd.R_lt (mvR_ HO571.out))) (below_size (bq0_ HB.out))); replace HO_0 := Aside0.mk (Kd.V_elder' (mvV_ HO_0.out) (Kd.R_base ho0) hb); replace HO_6 := Aside0.mk (Kd.N_elder' (mvN_ HO_6.out) (Kd.R_base ho0) hb); replace HO_10 := Aside0.mk (Kd.R_elder' (mvR_ HO_10.out) (Kd.R_base ho0) hb); replace HO_11 := Aside0.mk (Kd.R_elder' (mvR_ HO_11.out) (Kd.R_base ho0) hb); replace HO_12 := Aside0.mk (Kd.R_elder' (mvR_ HO_12.out) (Kd.R_base ho0) hb); replace HO571 := Aside0.mk (Kd.R_elder' (mvR_ HO571.out) (Kd.R_base ho0) hb); replace HB := Aside0.mk (below_step (bq0_ HB.out) hb); (try clear hb); (try clear ho0); obtain ⟨Ao88, co88, eo88⟩ := Kd.R_slice HO574.out; subst eo88))
                   go_ret
                   exact ⟨by first | rfl | (simp <;> rfl) | (simp [*] <;> rfl), bq0_ HB.out⟩
                 ·replace c66 := Bool.eq_false_iff.mpr c66
                  subst c66
                  have H1 : (some false) = some r := by rw [if_neg (show ¬ (false = true) by decide)] at H; exact H
                  clear H
                  have H := H1
                  clear H1
                  obtain rfl := Option.some.inj H
                  go_wp2_with (first | (go_at_call 13; (with_reducible refine (graph_Check.calls _ _ x6_2 true _ ?side1 ?side2 A63.out).mono ?_); (case side1 => exact mvC_ ((Kd.N_reads' HO_6.out).2.2)); (case side2 => exact (Kd.N_reads' HO_6.out).2.1); rintro e w89 ⟨rfl, hb⟩; replace HO_0 := Aside0.mk (Kd.V_below (mvV_ HO_0.out) hb); replace HO_6 := Aside0.mk (Kd.N_below (mvN_ HO_6.out) hb); replace HO_10 := Aside0.mk (Kd.R_below (mvR_ HO_10.out) hb); replace HO_11 := Aside0.mk (Kd.R_below (mvR_ HO_11.out) hb); replace HO_12 := Aside0.mk (Kd.R_below (mvR_ HO_12.out) hb); replace HB := Aside0.mk (below_step (bq0_ HB.out) hb); (try clear hb); obtain ⟨Ao90, co90, eo90⟩ := Kd.R_slice HO_11.out; subst eo90) | (go_at_call 17; (with_reducible refine (fullerref02_Same.calls k4 _ _ t556 _ _ t559 false _ ?side1 ?side2 ?side3 ?side4 A65.out).mono ?_); (case side1 => exact mvC_ ((Kd.R_reads' HO_10.out).2.2)); (case side2 => exact (Kd.R_reads' HO_10.out).2.1); (case side3 => exact mvC_ ((Kd.R_reads' HO_11.out).2.2)); (case side4 => exact (Kd.R_reads' HO_11.out).2.1); rintro e w' ⟨rfl, ⟨nd, rfl⟩⟩))
                  go_ret
                  exact ⟨by first | rfl | (simp <;> rfl) | (simp [*] <;> rfl), bq0_ HB.out⟩
                ·replace c64 := Bool.eq_false_iff.mpr c64
                 subst c64
                 have H1 : (some false) = some r := by rw [if_neg (show ¬ (false = true) by decide)] at H; exact H
                 clear H
                 have H := H1
                 clear H1
                 obtain rfl := Option.some.inj H
                 go_wp2_with (first | (go_at_call 13; (with_reducible refine (graph_Check.calls _ _ x6_2 false _ ?side1 ?side2 A63.out).mono ?_); (case side1 => exact mvC_ ((Kd.N_reads' HO_6.out).2.2)); (case side2 => exact (Kd.N_reads' HO_6.out).2.1); rintro e w91 ⟨rfl, hb⟩; replace HO_0 := Aside0.mk (Kd.V_below (mvV_ HO_0.out) hb); replace HO_6 := Aside0.mk (Kd.N_below (mvN_ HO_6.out) hb); replace HO_10 := Aside0.mk (Kd.R_below (mvR_ HO_10.out) hb); replace HO_11 := Aside0.mk (Kd.R_below (mvR_ HO_11.out) hb); replace HO_12 := Aside0.mk (Kd.R_below (mvR_ HO_12.out) hb); replace HB := Aside0.mk (below_step (bq0_ HB.out) hb); (try clear hb)))
                 go_ret
                 exact ⟨by first | rfl | (simp <;> rfl) | (simp [*] <;> rfl), bq0_ HB.out⟩
               ·replace c62 := Bool.eq_false_iff.mpr c62
                subst c62
                have H1 : (some false) = some r := by rw [if_neg (show ¬ (false = true) by decide)] at H; exact H
                clear H
                have H := H1
                clear H1
                obtain rfl := Option.some.inj H
                go_wp2
                go_ret
                exact ⟨by first | rfl | (simp <;> rfl) | (simp [*] <;> rfl), bq0_ HB.out⟩
           ·rw [if_neg c49] at H
            have c49b0 : ((t562.length : Int) == (t556.length : Int)) = false := beq_eq_false_iff_ne.mpr c49
            have c49b1 : ((t562.length : Int) != (t556.length : Int)) = true := bne_iff_ne.mpr c49
            have c49b2 : (t562.length == t556.length) = false := by first | simpa using c49 | (simp at c49 ⊢; omega)
            obtain rfl := Option.some.inj H
            go_wp2_with (first | ((with_reducible refine gate_callee (f := 20) rfl ?_); refine gL_ (some 98) Try.func20 #[.slice A0 l0.length c0, .int .i64 a1] ?_; (with_reducible refine (graph_Uses.calls kj34 _ _ l0 a1 t556 _ ?side1 ?side2 A46.out).mono ?_); (case side1 => exact mvC_ ((Kd.V_reads' HO_0.out).2.2)); (case side2 => exact (Kd.V_reads' HO_0.out).2.1); rintro e w92 ⟨v557, rfl, ho0, hb⟩; refine ⟨_, rfl, ?_⟩; have HO558 := Aside0.mk (Kd.R_lower (Kd.R_newM (M := fun k_ => (w.heap.size ≤ k_)) ho0 (below_size (bq0_ HB.out)) (fun k_ h_ => h_)) (below_size (bq0_ HB.out))); replace HO_0 := Aside0.mk (Kd.V_elder' (mvV_ HO_0.out) (Kd.R_base ho0) hb); replace HO_6 := Aside0.mk (Kd.N_elder' (mvN_ HO_6.out) (Kd.R_base ho0) hb); replace HB := Aside0.mk (below_step (bq0_ HB.out) hb); (try clear hb); (try clear ho0); obtain ⟨Ao93, co93, eo93⟩ := Kd.N_slice HO_6.out; subst eo93) | ((with_reducible refine gate_callee (f := 20) rfl ?_); refine gL_ (some 101) Try.func20 #[.slice Ao93 x6_2.length co93, .int .i64 a1] ?_; (with_reducible refine (graph_Uses.calls kj34 _ _ x6_2 a1 t559 _ ?side1 ?side2 A47.out).mono ?_); (case side1 => exact mvC_ ((Kd.N_reads' HO_6.out).2.2)); (case side2 => exact (Kd.N_reads' HO_6.out).2.1); rintro e w94 ⟨v560, rfl, ho0, hb⟩; refine ⟨_, rfl, ?_⟩; have HO561 := Aside0.mk (Kd.R_lower (Kd.R_new' (Kd.R_newM (M := fun k_ => (w.heap.size ≤ k_)) ho0 (below_size (bq0_ HB.out)) (fun k_ h_ => h_)) (Kd.R_lt (mvR_ HO558.out))) (below_size (bq0_ HB.out))); replace HO_0 := Aside0.mk (Kd.V_elder' (mvV_ HO_0.out) (Kd.R_base ho0) hb); replace HO_6 := Aside0.mk (Kd.N_elder' (mvN_ HO_6.out) (Kd.R_base ho0) hb); replace HO558 := Aside0.mk (Kd.R_elder' (mvR_ HO558.out) (Kd.R_base ho0) hb); replace HB := Aside0.mk (below_step (bq0_ HB.out) hb); (try clear hb); (try clear ho0)) | ((with_reducible refine gate_callee (f := 20) rfl ?_); refine gL_ (some 107) Try.func20 #[.slice Ao93 x6_2.length co93, .int .i64 (wrap64 (a1 + (l0.length : Int)))] ?_; (with_reducible refine (graph_Uses.calls kj34 _ _ x6_2 (wrap64 (a1 + (l0.length : Int))) t562 _ ?side1 ?side2 A48.out).mono ?_); (case side1 => exact mvC_ ((Kd.N_reads' HO_6.out).2.2)); (case side2 => exact (Kd.N_reads' HO_6.out).2.1); rintro e w95 ⟨v563, rfl, ho0, hb⟩; refine ⟨_, rfl, ?_⟩; have HO564 := Aside0.mk (Kd.R_lower (Kd.R_new' (Kd.R_new' (Kd.R_newM (M := fun k_ => (w.heap.size ≤ k_)) ho0 (below_size (bq0_ HB.out)) (fun k_ h_ => h_)) (Kd.R_lt (mvR_ HO558.out))) (Kd.R_lt (mvR_ HO561.out))) (below_size (bq0_ HB.out))); replace HO_0 := Aside0.mk (Kd.V_elder' (mvV_ HO_0.out) (Kd.R_base ho0) hb); replace HO_6 := Aside0.mk (Kd.N_elder' (mvN_ HO_6.out) (Kd.R_base ho0) hb); replace HO558 := Aside0.mk (Kd.R_elder' (mvR_ HO558.out) (Kd.R_base ho0) hb); replace HO561 := Aside0.mk (Kd.R_elder' (mvR_ HO561.out) (Kd.R_base ho0) hb); replace HB := Aside0.mk (below_step (bq0_ HB.out) hb); (try clear hb); (try clear ho0); obtain ⟨Ao96, co96, eo96⟩ := Kd.R_slice HO564.out; subst eo96; obtain ⟨Ao97, co97, eo97⟩ := Kd.R_slice HO558.out; subst eo97))
            go_ret
            exact ⟨by first | rfl | (simp <;> rfl) | (simp [*] <;> rfl), bq0_ HB.out⟩
    ·rw [if_neg c11] at H
     exact absurd H (by simp)

/-- THE ONE PURE STATEMENT of fullerlaw10_GraphShifts: yours. -/
def fullerlaw10_GraphShifts.Pure : Prop := ∀ (l0 : List (S35)) (a1 : Int), (l0.length * 56 ≤ 140737488351232 ∧ ∀ x_ ∈ l0, OK35 x_) → ((Lit.int .i64 a1).wf = true) → ∃ k, fullerlaw10_GraphShifts.f k l0 a1 = some true
theorem fullerlaw10_GraphShifts.walk (P : fullerlaw10_GraphShifts.Pure) (P0_ : Nat → Prop) (A0 : Option Addr) (c0 : Nat) (l0 : List (S35)) (a1 : Int) (w : World) (hr0 : Kd.C k35 w A0 l0.length l0) (hc0 : l0.length ≤ c0) (hg0 : l0.length * 56 ≤ 140737488351232 ∧ ∀ x_ ∈ l0, OK35 x_) (hg1 : (Lit.int .i64 a1).wf = true) :
  Calls Try.prog 7 #[.slice A0 l0.length c0, .int .i64 a1] w fun e w' => e = .returned (.bool true) ∧ Below w.heap.size w w' := by
 obtain ⟨k, h⟩ := P l0 a1 hg0 hg1
 refine (fullerlaw10_GraphShifts.calls k (fun k_ => k_ < w.heap.size) _ _ l0 a1 true w (Kd.V_mk hc0 (Kd.C_F k35_heap hr0)) h).mono ?_
 rintro e w' ⟨rfl, hd⟩
 exact ⟨rfl, hd⟩

end Go.Proofs.Ytklnbfdoklcmfaa.A
