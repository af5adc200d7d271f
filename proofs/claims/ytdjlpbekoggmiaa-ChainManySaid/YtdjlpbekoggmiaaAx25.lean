/- Lean functions that answer as the Go functions do, and the proofs that they do; no conditions. Written by this session's own driver: a scratch copy of the kit's print with the session's additions (wip/xprint). -/
import Derived.Test.YtdjlpbekoggmiaaAx0
import Derived.Test.YtdjlpbekoggmiaaAx7
import Derived.Test.YtdjlpbekoggmiaaAx8
import Derived.Test.YtdjlpbekoggmiaaAx10
import Derived.Test.YtdjlpbekoggmiaaAx11
namespace Go.Proofs.Ytdjlpbekoggmiaa.A
open Go.RowKit Go.Proofs.YtdjlpbekoggmiaaW.PrintWords Go.Proofs.YtdjlpbekoggmiaaW.PrintLast Go.Proofs.YtdjlpbekoggmiaaW.PrintMore
attribute [local go_sem] max2_int min2_int max_two min_two max_three min_three max_four min_four   -- for this text's walks alone
set_option linter.unusedVariables false
set_option linter.unusedSimpArgs false

def L7_0 : Array Bool := #[false, false, false, false, false, false, false, false, false, false, false, false, false, false, false, false, false, false, false, false, false, false, false, false, false, false, false, false, false, false, false, false, false, false, false]
def L7_1 : Array Bool := #[true, false, false, false, false, false, false, false, false, false, false, false, false, false, false, false, false, false, false, false, false, false, false, false, false, false, false, false, false, false, false, false, false, false, false]
def L7_2 : Array Bool := #[true, true, false, false, false, false, false, false, false, false, false, false, false, false, false, false, false, false, false, false, false, false, false, false, false, false, false, false, false, false, false, false, false, false, false]
def L7_3 : Array Bool := #[true, true, true, false, false, false, false, false, false, false, false, false, false, false, false, false, false, false, false, false, false, false, false, false, false, false, false, false, false, false, false, false, false, false, false]
def L7_4 : Array Bool := #[true, true, true, true, false, false, false, false, false, false, false, false, false, false, false, false, false, false, false, false, false, false, false, false, false, false, false, false, false, false, false, false, false, false, false]
def L7_5 : Array Bool := #[true, true, true, true, false, true, false, false, false, false, false, false, false, false, false, false, false, false, false, false, false, false, false, false, false, false, false, false, false, false, false, false, false, false, false]
def L7_6 : Array Bool := #[true, true, true, true, false, true, true, false, false, false, false, false, false, false, false, false, false, false, false, false, false, false, false, false, false, false, false, false, false, false, false, false, false, false, false]
def L7_7 : Array Bool := #[true, true, true, true, false, true, true, true, false, false, false, false, false, false, false, false, false, false, false, false, false, false, false, false, false, false, false, false, false, false, false, false, false, false, false]
def L7_8 : Array Bool := #[true, true, true, true, true, true, true, true, false, false, false, false, false, false, false, false, false, false, false, false, false, false, false, false, false, false, false, false, false, false, false, false, false, false, false]
def L7_9 : Array Bool := #[true, true, true, true, true, true, true, true, true, false, false, false, false, false, false, false, false, false, false, false, false, false, false, false, false, false, false, false, false, false, false, false, false, false, false]
def L7_10 : Array Bool := #[true, true, true, true, true, true, true, true, true, true, false, false, false, false, false, false, false, false, false, false, false, false, false, false, false, false, false, false, false, false, false, false, false, false, false]
def L7_11 : Array Bool := #[true, true, true, true, true, true, true, true, true, true, true, false, false, false, false, false, false, false, false, false, false, false, false, false, false, false, false, false, false, false, false, false, false, false, false]
def L7_12 : Array Bool := #[true, true, true, true, true, true, true, true, true, true, true, true, false, false, false, false, false, false, false, false, false, false, false, false, false, false, false, false, false, false, false, false, false, false, false]
def L7_13 : Array Bool := #[true, true, true, true, true, true, true, true, true, true, true, true, true, false, false, false, false, false, false, false, false, false, false, false, false, false, false, false, false, false, false, false, false, false, false]
def L7_14 : Array Bool := #[true, true, true, true, true, true, true, true, true, true, true, true, true, true, false, false, false, false, false, false, false, false, false, false, false, false, false, false, false, false, false, false, false, false, false]
def L7_15 : Array Bool := #[true, true, true, true, true, true, true, true, true, true, true, true, true, true, true, false, false, false, false, false, false, false, false, false, false, false, false, false, false, false, false, false, false, false, false]
def L7_16 : Array Bool := #[true, true, true, true, true, true, true, true, true, true, true, true, true, true, true, true, false, false, false, false, false, false, false, false, false, false, false, false, false, false, false, false, false, false, false]
def L7_17 : Array Bool := #[true, true, true, true, true, true, true, true, true, true, true, true, true, true, true, true, true, false, false, false, false, false, false, false, false, false, false, false, false, false, false, false, false, false, false]
def L7_18 : Array Bool := #[true, true, true, true, true, true, true, true, true, true, true, true, true, true, true, true, true, true, false, false, false, false, false, false, false, false, false, false, false, false, false, false, false, false, false]
def L7_19 : Array Bool := #[true, true, true, true, true, true, true, true, true, true, true, true, true, true, true, true, true, true, true, false, false, false, false, false, false, false, false, false, false, false, false, false, false, false, false]
def L7_20 : Array Bool := #[true, true, true, true, true, true, true, true, true, true, true, true, true, true, true, true, true, true, true, true, false, false, false, false, false, false, false, false, false, false, false, false, false, false, false]
def L7_21 : Array Bool := #[true, true, true, true, true, true, true, true, true, true, true, true, true, true, true, true, true, true, true, true, true, false, false, false, false, false, false, false, false, false, false, false, false, false, false]
def L7_22 : Array Bool := #[true, true, true, true, true, true, true, true, true, true, true, true, true, true, true, true, true, true, true, true, true, true, false, false, false, false, false, false, false, false, false, false, false, false, false]
def L7_23 : Array Bool := #[true, true, true, true, true, true, true, true, true, true, true, true, true, true, true, true, true, true, true, true, true, true, true, false, false, false, false, false, false, false, false, false, false, false, false]
def L7_24 : Array Bool := #[true, true, true, true, true, true, true, true, true, true, true, true, true, true, true, true, true, true, true, true, true, true, true, true, false, false, false, false, false, false, false, false, false, false, false]
def L7_25 : Array Bool := #[true, true, true, true, true, true, true, true, true, true, true, true, true, true, true, true, true, true, true, true, true, true, true, true, false, true, false, false, false, false, false, false, false, false, false]
def L7_26 : Array Bool := #[true, true, true, true, true, true, true, true, true, true, true, true, true, true, true, true, true, true, true, true, true, true, true, true, false, true, true, false, false, false, false, false, false, false, false]
def L7_27 : Array Bool := #[true, true, true, true, true, true, true, true, true, true, true, true, true, true, true, true, true, true, true, true, true, true, true, true, false, true, true, true, false, false, false, false, false, false, false]
def L7_28 : Array Bool := #[true, true, true, true, true, true, true, true, true, true, true, true, true, true, true, true, true, true, true, true, true, true, true, true, false, true, true, true, true, false, false, false, false, false, false]
def L7_29 : Array Bool := #[true, true, true, true, true, true, true, true, true, true, true, true, true, true, true, true, true, true, true, true, true, true, true, true, true, true, true, true, true, false, false, false, false, false, false]
def L7_30 : Array Bool := #[true, true, true, true, true, true, true, true, true, true, true, true, true, true, true, true, true, true, true, true, true, true, true, true, true, true, true, true, true, true, false, false, false, false, false]
def L7_31 : Array Bool := #[true, true, true, true, true, true, true, true, true, true, true, true, true, true, true, true, true, true, true, true, true, true, true, true, true, true, true, true, true, true, true, false, false, false, false]
def L7_32 : Array Bool := #[true, true, true, true, true, true, true, true, true, true, true, true, true, true, true, true, true, true, true, true, true, true, true, true, true, true, true, true, true, true, true, true, false, false, false]
def L7_33 : Array Bool := #[true, true, true, true, true, true, true, true, true, true, true, true, true, true, true, true, true, true, true, true, true, true, true, true, true, true, true, true, true, true, true, true, true, false, false]
def L7_34 : Array Bool := #[true, true, true, true, true, true, true, true, true, true, true, true, true, true, true, true, true, true, true, true, true, true, true, true, true, true, true, true, true, true, true, true, true, true, false]
def L7_35 : Array Bool := #[true, true, true, true, true, true, true, true, true, true, true, true, true, true, true, true, true, true, true, true, true, true, true, true, true, true, true, true, true, true, true, true, true, true, true]
/-! ### fullerlaw17_ChainMany: function 7 -/
mutual
def fullerlaw17_ChainMany.j0 : Nat → List Int → List Int → Bool → Bool → Option (Bool)
 | 0, _, _, _, _ => none
 | k + 1, x0, x1, x5, x31 => if x31 = true then (some x5) else (fullerlaw17_ChainMany.l0 k x0 x1 x5 ([] : List (S41)) 0 0)
def fullerlaw17_ChainMany.l0 : Nat → List Int → List Int → Bool → List (S41) → Int → Int → Option (Bool)
 | 0, _, _, _, _, _, _ => none
 | k + 1, x0, x1, x5, x6, x7, x8 => if x8 < (x0.length : Int) then (if 0 ≤ x8 then (if x8 < (x1.length : Int) then ((chain_Put.f k x6 (wrap64 ((wrap64 (x7 + 1)) + (wrap64 (rd x1 x8)))) ([] : List Int) (([rd x0 x8] : List Int))).bind fun bt444 => (if ((bt444.2 == 0) != (decide (x8 < 16))) = true then (none) else (if x8 ≥ 16 then (if bt444.2 = 171 then (fullerlaw17_ChainMany.l0 k x0 x1 x5 bt444.1 (wrap64 ((wrap64 (x7 + 1)) + (wrap64 (rd x1 x8)))) (wrap64 (x8 + 1))) else (some false)) else (fullerlaw17_ChainMany.l0 k x0 x1 x5 bt444.1 (wrap64 ((wrap64 (x7 + 1)) + (wrap64 (rd x1 x8)))) (wrap64 (x8 + 1)))))) else (none)) else (none)) else (fullerlaw17_ChainMany.l1 k x0 x1 x5 x6 0 0)
def fullerlaw17_ChainMany.l1 : Nat → List Int → List Int → Bool → List (S41) → Int → Int → Option (Bool)
 | 0, _, _, _, _, _, _ => none
 | k + 1, x0, x1, x5, x6, x7, x11 => if x11 < (x0.length : Int) then (fullerlaw17_ChainMany.j3 k x0 x1 x5 x6 x7 x11 (decide (x11 < 16))) else (fullerlaw17_ChainMany.j3 k x0 x1 x5 x6 x7 x11 false)
def fullerlaw17_ChainMany.j3 : Nat → List Int → List Int → Bool → List (S41) → Int → Int → Bool → Option (Bool)
 | 0, _, _, _, _, _, _, _ => none
 | k + 1, x0, x1, x5, x6, x7, x11, x80 => if x80 = true then (if 0 ≤ x11 then (if x11 < (x1.length : Int) then ((chain_Read.f k x6 (wrap64 ((wrap64 (x7 + 1)) + (wrap64 (rd x1 x11))))).bind fun bt449 => ((chain_Read.f k x6 (wrap64 ((wrap64 ((wrap64 (x7 + 1)) + (wrap64 (rd x1 x11)))) - 1))).bind fun bt457 => (if bt449.2.2 = true then (if x11 < (x0.length : Int) then ((fullerref02_Same.f k bt449.2.1 (([rd x0 x11] : List Int))).bind fun t469 => (if t469 = true then (if (bt457.2.2 != (decide (x11 > 0))) = true then (none) else (if x11 > 0 then (if 0 ≤ (wrap64 (x11 - 1)) then (if (wrap64 (x11 - 1)) < (x0.length : Int) then ((fullerref02_Same.f k bt457.2.1 (([rd x0 (wrap64 (x11 - 1))] : List Int))).bind fun t474 => (if t474 = true then (fullerlaw17_ChainMany.l1 k x0 x1 x5 x6 (wrap64 ((wrap64 (x7 + 1)) + (wrap64 (rd x1 x11)))) (wrap64 (x11 + 1))) else (some false))) else (none)) else (none)) else (fullerlaw17_ChainMany.l1 k x0 x1 x5 x6 (wrap64 ((wrap64 (x7 + 1)) + (wrap64 (rd x1 x11)))) (wrap64 (x11 + 1))))) else (none))) else (none)) else (none)))) else (none)) else (none)) else (if x5 = true then (some ((x6.length : Int) == (mn (x0.length : Int) 16))) else (none))
end
def fullerlaw17_ChainMany.f (k : Nat) (l0 : List Int) (l1 : List Int) : Option (Bool) := (fullerlaw17_awake.f k).bind fun t438 => (if (l0.length : Int) > 30 then (fullerlaw17_ChainMany.j0 k l0 l1 t438 true) else (if (l1.length : Int) < (l0.length : Int) then (fullerlaw17_ChainMany.j0 k l0 l1 t438 true) else (fullerlaw17_ChainMany.j0 k l0 l1 t438 (decide ((l1.length : Int) > 30)))))
theorem fullerlaw17_ChainMany.mono_l : ∀ k, (∀ y0 y1 y2 y3, LeO (fullerlaw17_ChainMany.j0 k y0 y1 y2 y3) (fullerlaw17_ChainMany.j0 (k + 1) y0 y1 y2 y3)) ∧ (∀ y0 y1 y2 y3 y4 y5, LeO (fullerlaw17_ChainMany.l0 k y0 y1 y2 y3 y4 y5) (fullerlaw17_ChainMany.l0 (k + 1) y0 y1 y2 y3 y4 y5)) ∧ (∀ y0 y1 y2 y3 y4 y5, LeO (fullerlaw17_ChainMany.l1 k y0 y1 y2 y3 y4 y5) (fullerlaw17_ChainMany.l1 (k + 1) y0 y1 y2 y3 y4 y5)) ∧ (∀ y0 y1 y2 y3 y4 y5 y6, LeO (fullerlaw17_ChainMany.j3 k y0 y1 y2 y3 y4 y5 y6) (fullerlaw17_ChainMany.j3 (k + 1) y0 y1 y2 y3 y4 y5 y6))
 | 0 => ⟨fun _ _ _ _ r h => by simp [fullerlaw17_ChainMany.j0] at h, fun _ _ _ _ _ _ r h => by simp [fullerlaw17_ChainMany.l0] at h, fun _ _ _ _ _ _ r h => by simp [fullerlaw17_ChainMany.l1] at h, fun _ _ _ _ _ _ _ r h => by simp [fullerlaw17_ChainMany.j3] at h⟩
 | k + 1 => by
  obtain ⟨ih0, ih1, ih2, ih3⟩ := fullerlaw17_ChainMany.mono_l k
  refine ⟨?_, ?_, ?_, ?_⟩
  ·intro y0 y1 y2 y3
   unfold fullerlaw17_ChainMany.j0
   repeat' first
   | (with_reducible exact ih0 _ _ _ _)
   | (with_reducible exact ih1 _ _ _ _ _ _)
   | (with_reducible exact ih2 _ _ _ _ _ _)
   | (with_reducible exact ih3 _ _ _ _ _ _ _)
   | (with_reducible exact chain_Put.mono _ _ _ _ _)
   | (with_reducible exact chain_Read.mono _ _ _)
   | (with_reducible exact fullerlaw17_awake.mono _)
   | (with_reducible exact fullerref02_Same.mono _ _ _)
   | (with_reducible exact LeO.refl _)
   | (with_reducible exact LeO.none _)
   | (with_reducible refine LeO.ite ?_ ?_)
   | (with_reducible refine LeO.bind ?_ (fun _ => ?_))
   | exact ih0 _ _ _ _
   | exact ih1 _ _ _ _ _ _
   | exact ih2 _ _ _ _ _ _
   | exact ih3 _ _ _ _ _ _ _
   | exact chain_Put.mono _ _ _ _ _
   | exact chain_Read.mono _ _ _
   | exact fullerlaw17_awake.mono _
   | exact fullerref02_Same.mono _ _ _
   | exact LeO.none _
   | refine LeO.ite ?_ ?_
   | refine LeO.bind ?_ (fun _ => ?_)
  ·intro y0 y1 y2 y3 y4 y5
   unfold fullerlaw17_ChainMany.l0
   repeat' first
   | (with_reducible exact ih0 _ _ _ _)
   | (with_reducible exact ih1 _ _ _ _ _ _)
   | (with_reducible exact ih2 _ _ _ _ _ _)
   | (with_reducible exact ih3 _ _ _ _ _ _ _)
   | (with_reducible exact chain_Put.mono _ _ _ _ _)
   | (with_reducible exact chain_Read.mono _ _ _)
   | (with_reducible exact fullerlaw17_awake.mono _)
   | (with_reducible exact fullerref02_Same.mono _ _ _)
   | (with_reducible exact LeO.refl _)
   | (with_reducible exact LeO.none _)
   | (with_reducible refine LeO.ite ?_ ?_)
   | (with_reducible refine LeO.bind ?_ (fun _ => ?_))
   | exact ih0 _ _ _ _
   | exact ih1 _ _ _ _ _ _
   | exact ih2 _ _ _ _ _ _
   | exact ih3 _ _ _ _ _ _ _
   | exact chain_Put.mono _ _ _ _ _
   | exact chain_Read.mono _ _ _
   | exact fullerlaw17_awake.mono _
   | exact fullerref02_Same.mono _ _ _
   | exact LeO.none _
   | refine LeO.ite ?_ ?_
   | refine LeO.bind ?_ (fun _ => ?_)
  ·intro y0 y1 y2 y3 y4 y5
   unfold fullerlaw17_ChainMany.l1
   repeat' first
   | (with_reducible exact ih0 _ _ _ _)
   | (with_reducible exact ih1 _ _ _ _ _ _)
   | (with_reducible exact ih2 _ _ _ _ _ _)
   | (with_reducible exact ih3 _ _ _ _ _ _ _)
   | (with_reducible exact chain_Put.mono _ _ _ _ _)
   | (with_reducible exact chain_Read.mono _ _ _)
   | (with_reducible exact fullerlaw17_awake.mono _)
   | (with_reducible exact fullerref02_Same.mono _ _ _)
   | (with_reducible exact LeO.refl _)
   | (with_reducible exact LeO.none _)
   | (with_reducible refine LeO.ite ?_ ?_)
   | (with_reducible refine LeO.bind ?_ (fun _ => ?_))
   | exact ih0 _ _ _ _
   | exact ih1 _ _ _ _ _ _
   | exact ih2 _ _ _ _ _ _
   | exact ih3 _ _ _ _ _ _ _
   | exact chain_Put.mono _ _ _ _ _
   | exact chain_Read.mono _ _ _
   | exact fullerlaw17_awake.mono _
   | exact fullerref02_Same.mono _ _ _
   | exact LeO.none _
   | refine LeO.ite ?_ ?_
   | refine LeO.bind ?_ (fun _ => ?_)
  ·intro y0 y1 y2 y3 y4 y5 y6
   unfold fullerlaw17_ChainMany.j3
   repeat' first
   | (with_reducible exact ih0 _ _ _ _)
   | (with_reducible exact ih1 _ _ _ _ _ _)
   | (with_reducible exact ih2 _ _ _ _ _ _)
   | (with_reducible exact ih3 _ _ _ _ _ _ _)
   | (with_reducible exact chain_Put.mono _ _ _ _ _)
   | (with_reducible exact chain_Read.mono _ _ _)
   | (with_reducible exact fullerlaw17_awake.mono _)
   | (with_reducible exact fullerref02_Same.mono _ _ _)
   | (with_reducible exact LeO.refl _)
   | (with_reducible exact LeO.none _)
   | (with_reducible refine LeO.ite ?_ ?_)
   | (with_reducible refine LeO.bind ?_ (fun _ => ?_))
   | exact ih0 _ _ _ _
   | exact ih1 _ _ _ _ _ _
   | exact ih2 _ _ _ _ _ _
   | exact ih3 _ _ _ _ _ _ _
   | exact chain_Put.mono _ _ _ _ _
   | exact chain_Read.mono _ _ _
   | exact fullerlaw17_awake.mono _
   | exact fullerref02_Same.mono _ _ _
   | exact LeO.none _
   | refine LeO.ite ?_ ?_
   | refine LeO.bind ?_ (fun _ => ?_)
theorem fullerlaw17_ChainMany.mono : ∀ a0 a1 k, LeO (fullerlaw17_ChainMany.f k a0 a1) (fullerlaw17_ChainMany.f (k + 1) a0 a1) := by
 intro a0 a1 k
 obtain ⟨ih0, ih1, ih2, ih3⟩ := fullerlaw17_ChainMany.mono_l k
 unfold fullerlaw17_ChainMany.f
 repeat' first
   | (with_reducible exact ih0 _ _ _ _)
   | (with_reducible exact ih1 _ _ _ _ _ _)
   | (with_reducible exact ih2 _ _ _ _ _ _)
   | (with_reducible exact ih3 _ _ _ _ _ _ _)
   | (with_reducible exact chain_Put.mono _ _ _ _ _)
   | (with_reducible exact chain_Read.mono _ _ _)
   | (with_reducible exact fullerlaw17_awake.mono _)
   | (with_reducible exact fullerref02_Same.mono _ _ _)
   | (with_reducible exact LeO.refl _)
   | (with_reducible exact LeO.none _)
   | (with_reducible refine LeO.ite ?_ ?_)
   | (with_reducible refine LeO.bind ?_ (fun _ => ?_))
   | exact ih0 _ _ _ _
   | exact ih1 _ _ _ _ _ _
   | exact ih2 _ _ _ _ _ _
   | exact ih3 _ _ _ _ _ _ _
   | exact chain_Put.mono _ _ _ _ _
   | exact chain_Read.mono _ _ _
   | exact fullerlaw17_awake.mono _
   | exact fullerref02_Same.mono _ _ _
   | exact LeO.none _
   | refine LeO.ite ?_ ?_
   | refine LeO.bind ?_ (fun _ => ?_)
def fullerlaw17_ChainMany.T21 : Bool × List (List Nat × List Nat) := (true, [([], []), ([0], [0]), ([1], [1]), ([2], [2]), ([3, 2], [2, 3]), ([2], [2]), ([2], [2]), ([5, 6, 2], [2, 5, 6]), ([7, 2], [2, 7]), ([8, 2], [2, 8]), ([4, 9, 2, 2], [2, 4, 9]), ([10, 2], [2, 10]), ([2, 11], [2, 11]), ([12, 10], [12]), ([13], [13]), ([13], [13]), ([15, 13], [13, 15]), ([14, 16, 13], [13, 14, 16]), ([13, 17], [13, 17]), ([18, 13], [18]), ([19], [19]), ([20, 19], [19, 20]), ([21, 19, 19], [19, 21]), ([22], [22]), ([23, 22], [22, 23]), ([22], [22]), ([22], [22]), ([26, 22], [22, 26]), ([25, 27, 22], [22, 25, 27]), ([28, 22], [22, 28]), ([29, 22], [22, 29]), ([24, 30, 22, 22], [22, 24, 30]), ([31, 22], [22, 31]), ([22, 32, 19], [19, 22, 32]), ([19, 33], [19, 33])])
def fullerlaw17_ChainMany.B21 : List Nat := [0, 1, 3, 7, 15, 7, 7, 103, 231, 487, 1023, 2047, 4095, 8191, 16383, 16383, 49151, 131071, 262143, 524287, 1048575, 2097151, 4194303, 8388607, 16777215, 8388607, 8388607, 75497471, 243269631, 511705087, 1048575999, 2147483647, 4294967295, 8589934591, 17179869183]
theorem fullerlaw17_ChainMany.tab21 : rtab .any (opsOf Try.f7 21) = fullerlaw17_ChainMany.T21 := by kernel_rfl
theorem fullerlaw17_ChainMany.bits21 : waitsOk fullerlaw17_ChainMany.T21.2 fullerlaw17_ChainMany.B21 = true := by kernel_rfl
set_option maxHeartbeats 8000000 in
set_option maxRecDepth 100000 in
theorem fullerlaw17_ChainMany.calls (k : Nat) (A0 : Option Addr) (c0 : Nat) (l0 : List Int) (A1 : Option Addr) (c1 : Nat) (l1 : List Int) (r : Bool) (w : World) (hr0 : Kd.C (Kd.int .i64) w A0 l0.length l0) (hc0 : l0.length ≤ c0) (hr1 : Kd.C (Kd.int .u8) w A1 l1.length l1) (hc1 : l1.length ≤ c1) (h : fullerlaw17_ChainMany.f k l0 l1 = some r) :
  Calls Try.prog 7 #[.slice A0 l0.length c0, .slice A1 l1.length c1] w fun e w' => e = .returned (.bool r) ∧ Below w.heap.size w w' := by
 have hu25 := Try.underlying25
 have HR0 := Aside0.mk hr0
 have HC0 := Aside0.mk hc0
 clear hr0 hc0
 have HR1 := Aside0.mk hr1
 have HC1 := Aside0.mk hc1
 clear hr1 hc1
 have HB := Aside0.mk (Below.refl w.heap.size w)
 have H : ((fullerlaw17_awake.f k).bind fun t438 => (if (l0.length : Int) > 30 then (fullerlaw17_ChainMany.j0 k l0 l1 t438 true) else (if (l1.length : Int) < (l0.length : Int) then (fullerlaw17_ChainMany.j0 k l0 l1 t438 true) else (fullerlaw17_ChainMany.j0 k l0 l1 t438 (decide ((l1.length : Int) > 30)))))) = some r := h
 clear h
 replace H := Option.bind_eq_some_iff.mp H
 obtain ⟨t438, A30, H⟩ := H
 replace H : (if (l0.length : Int) > 30 then (fullerlaw17_ChainMany.j0 k l0 l1 t438 true) else (if (l1.length : Int) < (l0.length : Int) then (fullerlaw17_ChainMany.j0 k l0 l1 t438 true) else (fullerlaw17_ChainMany.j0 k l0 l1 t438 (decide ((l1.length : Int) > 30))))) = some r := H
 have A3 := Aside0.mk A30
 clear A30
 have HC4 := Aside0.mk H
 clear H
 go_enter Try.func7, Try.ntmps7
 go_upto_region 2 with (first | ((with_reducible refine gate_callee (f := 8) rfl ?_); refine goesL_ (some 16) rfl rfl Try.func8 (by kernel_rfl) rfl #[] rfl (by (try simp only [List.map_toArray, List.map_cons, List.map_nil]); first | done | rfl | (simp only [List.length_drop, List.length_take]; rfl)) ?_; (with_reducible refine (fullerlaw17_awake.calls k  t438 _ A3.out).mono ?_); rintro e w5 ⟨rfl, hb⟩; refine ⟨_, rfl, ?_⟩; have n0_ := Aside0.mk (below_step (bq0_ HB.out) hb); clear HB; have HB := n0_; clear n0_; (try clear hb); (try clear hb2); (try clear hk); (try clear hi)))
 (try simp only [Act.put, sA_, sB_, sC_])
 go_cut [31] (fun v31 wc => ∃ (kq : Nat) (x31_3 : Bool), v31 = .bool x31_3 ∧ Aside0 (fullerlaw17_ChainMany.j0 kq l0 l1 t438 x31_3 = some r) ∧ Aside0 (kq ≤ k) ∧ Aside0 (Below w.heap.size w wc))
 case first =>
  have H := HC4.out
  clear HC4
  by_cases c6 : (l0.length : Int) > 30
  ·rw [if_pos c6] at H
   have c6b0 : decide (30 < (l0.length : Int)) = true := decide_eq_true c6
   have c6b1 : decide (30 < l0.length) = true := decide_eq_true (by omega)
   clear c6
   (first | rw [c6b0] | (simp only [i64_w, i32_w]; rw [c6b0]) | skip)
   have H' := Aside0.mk H
   clear H
   go_wp2
   go_meet
   case rel => exact ⟨_, (true), (by first | rfl | (simp; done) | (simp [*]; done)), H', ⟨by first | omega | exact Nat.le_refl _⟩, ⟨by repeat (first | (with_reducible first | exact HB.out | apply below_alloc | apply pw_below_drewN | apply below_drew1) | exact HB.out)⟩⟩
  ·rw [if_neg c6] at H
   have c6b0 : decide (30 < (l0.length : Int)) = false := decide_eq_false c6
   have c6b1 : decide (30 < l0.length) = false := decide_eq_false (by omega)
   clear c6
   (first | rw [c6b0] | (simp only [i64_w, i32_w]; rw [c6b0]) | skip)
   by_cases c7 : (l1.length : Int) < (l0.length : Int)
   ·rw [if_pos c7] at H
    have c7b0 : decide ((l1.length : Int) < (l0.length : Int)) = true := decide_eq_true c7
    have c7b1 : decide (l1.length < l0.length) = true := decide_eq_true (Int.ofNat_lt.mp c7)
    clear c7
    have H' := Aside0.mk H
    clear H
    go_wp2
    go_meet
    case rel => exact ⟨_, (true), (by first | rfl | (simp; done) | (simp [*]; done)), H', ⟨by first | omega | exact Nat.le_refl _⟩, ⟨by repeat (first | (with_reducible first | exact HB.out | apply below_alloc | apply pw_below_drewN | apply below_drew1) | exact HB.out)⟩⟩
   ·rw [if_neg c7] at H
    have c7b0 : decide ((l1.length : Int) < (l0.length : Int)) = false := decide_eq_false c7
    have c7b1 : decide (l1.length < l0.length) = false := decide_eq_false (fun h => c7 (Int.ofNat_lt.mpr h))
    clear c7
    have H' := Aside0.mk H
    clear H
    go_wp2
    go_meet
    case rel => exact ⟨_, (decide ((l1.length : Int) > 30)), (by first | rfl | (simp; done) | (simp [*]; done)), H', ⟨by first | omega | exact Nat.le_refl _⟩, ⟨by repeat (first | (with_reducible first | exact HB.out | apply below_alloc | apply pw_below_drewN | apply below_drew1) | exact HB.out)⟩⟩
 case rest =>
  clear HC4
  try clear c1
  try clear p2
  try clear c6
  try clear c6b0
  try clear c6b1
  try clear c7
  try clear c7b0
  try clear c7b1
  obtain ⟨kq, x31_3, rfl, HA, HJ3, HB⟩ := hcut
  cases kq with
  | zero => exact absurd HA.out (by simp [fullerlaw17_ChainMany.j0])
  | succ kj3 =>
   have H := HA.out
   clear HA
   simp only [fullerlaw17_ChainMany.j0] at H
   by_cases c8 : x31_3 = true
   ·subst c8
    have H1 : (some t438) = some r := by rw [if_pos rfl] at H; exact H
    clear H
    have H := H1
    clear H1
    obtain rfl := Option.some.inj H
    go_wp2
    go_ret
    exact ⟨by first | rfl | (simp [errW_none, errW_some] <;> rfl) | (simp [*, errW_none, errW_some] <;> rfl), by repeat (first | (with_reducible first | exact HB.out | apply below_alloc | apply pw_below_drewN | apply below_drew1) | exact HB.out)⟩
   ·replace c8 := Bool.eq_false_iff.mpr c8
    subst c8
    have H1 : (fullerlaw17_ChainMany.l0 kj3 l0 l1 t438 ([] : List (S41)) 0 0) = some r := by rw [if_neg (show ¬ (false = true) by decide)] at H; exact H
    clear H
    have H := H1
    clear H1
    have H' := Aside0.mk H
    clear H
    go_wp2
    go_loopg [6, 7, 8] kj3 (fun kq v6 v7 v8 w' => ∃ (x6_2 : List (S41)) (x7_2 : Int) (x8_2 : Int), v7 = .int .i64 x7_2 ∧ v8 = .int .i64 x8_2 ∧ Aside0 (fullerlaw17_ChainMany.l0 kq l0 l1 t438 x6_2 x7_2 x8_2 = some r) ∧ Aside0 (kq ≤ kj3) ∧ Aside0 (Kd.V k41 41 w' w.heap.size (fun _ => True) v6 x6_2) ∧ Aside0 (Below w.heap.size w w'))
    case atStart => exact ⟨(([] : List (S41))), (0), (0), (by first | rfl | (simp; done) | (simp [*]; done)), (by first | rfl | (simp; done) | (simp [*]; done)), H', ⟨Nat.le_refl _⟩, ⟨(Kd.V_nil _ _ _ _ _)⟩, ⟨by repeat (first | (with_reducible first | exact HB.out | apply below_alloc | apply pw_below_drewN | apply below_drew1) | exact HB.out)⟩⟩
    case round =>
     clear H'
     try clear c1
     try clear p2
     try clear c6
     try clear c6b0
     try clear c6b1
     try clear c7
     try clear c7b0
     try clear c7b1
     try clear c8
     try clear p2
     obtain ⟨x6_2, x7_2, x8_2, rfl, rfl, HA, HK2, HO_6, HB⟩ := hrel
     cases gk with
     | zero => exact absurd HA.out (by simp [fullerlaw17_ChainMany.l0])
     | succ k2 =>
      have H := HA.out
      clear HA
      simp only [fullerlaw17_ChainMany.l0] at H
      by_cases c9 : x8_2 < (l0.length : Int)
      ·rw [if_pos c9] at H
       have c9b0 : decide (x8_2 < (l0.length : Int)) = true := decide_eq_true c9
       clear c9
       by_cases c10 : 0 ≤ x8_2
       ·rw [if_pos c10] at H
        have c10b0 : decide (0 ≤ x8_2) = true := decide_eq_true c10
        clear c10
        by_cases c11 : x8_2 < (l1.length : Int)
        ·rw [if_pos c11] at H
         have c11b0 : decide (x8_2 < (l1.length : Int)) = true := decide_eq_true c11
         clear c11
         obtain ⟨y441, hy441⟩ : ∃ y_ : List Int, y_ = (([rd l0 x8_2] : List Int)) := ⟨_, rfl⟩
         replace H : ((chain_Put.f k2 x6_2 (wrap64 ((wrap64 (x7_2 + 1)) + (wrap64 (rd l1 x8_2)))) ([] : List Int) y441).bind fun bt444 => (if ((bt444.2 == 0) != (decide (x8_2 < 16))) = true then (none) else (if x8_2 ≥ 16 then (if bt444.2 = 171 then (fullerlaw17_ChainMany.l0 k2 l0 l1 t438 bt444.1 (wrap64 ((wrap64 (x7_2 + 1)) + (wrap64 (rd l1 x8_2)))) (wrap64 (x8_2 + 1))) else (some false)) else (fullerlaw17_ChainMany.l0 k2 l0 l1 t438 bt444.1 (wrap64 ((wrap64 (x7_2 + 1)) + (wrap64 (rd l1 x8_2)))) (wrap64 (x8_2 + 1)))))) = some r := by first | (rw [hy441]; with_reducible exact H) | (have H2_ := (Option.bind_some _ _).symm.trans H; rw [hy441]; with_reducible exact H2_) | (have H2_ := (Option.bind_some _ _).symm.trans H; with_reducible exact H2_) | with_reducible exact H | (rw [hy441]; exact H) | exact H
         have Ny441 := Aside0.mk hy441
         clear hy441
         replace H := Option.bind_eq_some_iff.mp H
         obtain ⟨⟨t444, t447⟩, A120, H⟩ := H
         replace H : (if ((t447 == 0) != (decide (x8_2 < 16))) = true then (none) else (if x8_2 ≥ 16 then (if t447 = 171 then (fullerlaw17_ChainMany.l0 k2 l0 l1 t438 t444 (wrap64 ((wrap64 (x7_2 + 1)) + (wrap64 (rd l1 x8_2)))) (wrap64 (x8_2 + 1))) else (some false)) else (fullerlaw17_ChainMany.l0 k2 l0 l1 t438 t444 (wrap64 ((wrap64 (x7_2 + 1)) + (wrap64 (rd l1 x8_2)))) (wrap64 (x8_2 + 1))))) = some r := H
         have A12 := Aside0.mk A120
         clear A120
         by_cases c13 : ((t447 == 0) != (decide (x8_2 < 16))) = true
         ·rw [if_pos c13] at H
          exact absurd H (by simp)
         ·rw [if_neg c13] at H
          have c13b0 : ((t447 == 0) != (decide (x8_2 < 16))) = false := by simpa using c13
          (try (have c13b1 : decide ((t447 == 0) = (decide (x8_2 < 16))) = true := by simpa using c13))
          (try (have c13b2 : ((t447 == 0) == (decide (x8_2 < 16))) = true := by simpa using c13))
          clear c13
          by_cases c14 : x8_2 ≥ 16
          ·rw [if_pos c14] at H
           have c14b0 : decide (16 ≤ x8_2) = true := decide_eq_true c14
           clear c14
           by_cases c15 : t447 = 171
           ·rw [if_pos c15] at H
            have c15b0 : (t447 == 171) = true := beq_iff_eq.mpr c15
            have c15b1 : (t447 != 171) = false := bne_eq_false_iff_eq.mpr c15
            clear c15
            have H' := Aside0.mk H
            clear H
            have p439 : 0 ≤ (x8_2 : Int) := of_decide_eq_true (by first | (with_reducible assumption) | assumption)
            have q439 : x8_2 < (l1.length : Int) := of_decide_eq_true (by first | (with_reducible assumption) | assumption)
            obtain ⟨ad439, e439, hx439_0⟩ := Kd.at_int HR1.out x8_2 p439 q439
            cases e439
            replace hx439_0 := (HB.out.cell (World.block_lt_of_cell? w _ hx439_0)).trans hx439_0
            replace p439 := eq_true p439
            replace q439 := eq_true q439
            have p440 : 0 ≤ (x8_2 : Int) := of_decide_eq_true (by first | (with_reducible assumption) | assumption)
            have q440 : x8_2 < (l0.length : Int) := of_decide_eq_true (by first | (with_reducible assumption) | assumption)
            obtain ⟨ad440, e440, hx440_0⟩ := Kd.at_int HR0.out x8_2 p440 q440
            cases e440
            replace hx440_0 := (HB.out.cell (World.block_lt_of_cell? w _ hx440_0)).trans hx440_0
            replace p440 := eq_true p440
            replace q440 := eq_true q440
            go_wp2_with (first | ((with_reducible refine gate_dst (N := 54) rfl ?_); (try (refine gate_guard (by rfl) ?_; dsimp only)); refine Kd.R_lit (Kd.int .i64) _ 3 ?hg (N := 54) ?hd (xs := ([rd l0 x8_2] : List Int)) (inner := [.int .i64 (rd l0 x8_2)]) (ok := fun _ => True) (okp := fun _ => True) ?hr ?hp (fun _ hk => hk) trivial (Below.refl _ _) (Nat.le_refl _) (by simp) ?_; (case hd => rfl); (case hg => rfl); (case hr => first | (go_simp; done) | (go_simp; rfl)); (case hp => exact (Reps.one (show Kd.M (Kd.int .i64) _ _ _ (rd l0 x8_2) [.int .i64 (rd l0 x8_2)] from rfl) (Reps.none _ _))); intro v442 w16 ho17 hb hg_ hnew_; clear hg_ hnew_; (first | rw [← Ny441.out] at ho17 | (simp only [Int.reduceToNat] at ho17; rw [← Ny441.out] at ho17)); have n0_ := Aside0.mk (Kd.V_elder' (mvV_ HO_6.out) (Kd.R_base ho17) hb); have n1_ := Aside0.mk (Kd.R_lower ho17 (below_size (bq0_ HB.out))); have n2_ := Aside0.mk (below_step (bq0_ HB.out) hb); clear HO_6; clear HB; have HO_6 := n0_; have HO443 := n1_; have HB := n2_; clear n0_ n1_ n2_; clear hb ho17; obtain ⟨Ao18, co18, eo18⟩ := Kd.R_slice HO443.out; subst eo18; obtain ⟨Ao19, co19, eo19⟩ := Kd.V_slice HO_6.out; subst eo19) | ((with_reducible refine gate_callee (f := 13) rfl ?_); refine goesL_ (some 56) rfl rfl Try.func13 (by kernel_rfl) rfl #[.slice Ao19 x6_2.length co19, .int .i64 (wrap64 ((wrap64 (x7_2 + 1)) + (wrap64 (rd l1 x8_2)))), .agg #[.slice none 0 0, .slice Ao18 y441.length co18]] rfl (by (try simp only [List.map_toArray, List.map_cons, List.map_nil]); first | done | rfl | (simp only [List.length_drop, List.length_take]; rfl)) ?_; (refine (chain_Put.calls k2 (fun k_ => (True ∧ some k_ ≠ (.slice Ao18 y441.length co18 : Value).ownBlock)) _ _ x6_2 (wrap64 ((wrap64 (x7_2 + 1)) + (wrap64 (rd l1 x8_2)))) _ _ ([] : List Int) _ _ y441 t444 t447 _ ?side1 ?side2 ?side3 ?side4 ?side5 A12.out).mono ?_); (case side1 => exact HO_6.out); (case side2 => exact Kd.C_nil _ _); (case side3 => exact Nat.le_refl _); (case side4 => repeat (first | exact (Kd.R_reads' HO443.out).2.2 | (with_reducible refine Kd.C_alloc ?_ _) | (with_reducible refine Kd.C_drewN ?_ _) | (with_reducible refine Kd.C_drew ?_))); (case side5 => exact (Kd.R_reads' HO443.out).2.1); rintro e w20 ⟨v445, rfl, ho0, hb⟩; refine ⟨_, rfl, ?_⟩; have n0_ := Aside0.mk (Kd.V_below (mvV_ HO_6.out) hb); have n1_ := Aside0.mk (Kd.R_below (mvR_ HO443.out) hb); have n2_ := Aside0.mk (Kd.V_lower (Kd.V_mono (ok' := fun k_ => some k_ ≠ (.slice Ao18 y441.length co18 : Value).ownBlock) ho0 (fun k_ hk_ => Or.elim hk_ (fun hs_ => hs_.2) (fun hn_ => (Kd.fresh' (Kd.R_lt (mvR_ HO443.out)) k_ hn_)))) (below_size (bq0_ HB.out))); have n3_ := Aside0.mk (below_step (bq0_ HB.out) hb); clear HO_6; clear HO443; clear HB; have HO_6 := n0_; have HO443 := n1_; have HO446 := n2_; have HB := n3_; clear n0_ n1_ n2_ n3_; (try clear hb); (try clear hb2); (try clear hk); (try clear hi); (try clear ho0)))
            go_roundg k2
            case measure => have := HJ3.out; have := HK2.out; omega
            case rel => exact ⟨(t444), (wrap64 ((wrap64 (x7_2 + 1)) + (wrap64 (rd l1 x8_2)))), (wrap64 (x8_2 + 1)), (by first | rfl | (simp; done) | (simp [*]; done)), (by first | rfl | (simp; done) | (simp [*]; done)), H', ⟨by have := HJ3.out; have := HK2.out; omega⟩, ⟨by (with_reducible repeat (first | apply Kd.V_alloc | apply Kd.V_drewN | apply Kd.V_drew)); exact Kd.V_mono HO446.out (fun _ hk => trivial)⟩, ⟨by repeat (first | (with_reducible first | exact HB.out | apply below_alloc | apply pw_below_drewN | apply below_drew1) | exact HB.out)⟩⟩
           ·rw [if_neg c15] at H
            have c15b0 : (t447 == 171) = false := beq_eq_false_iff_ne.mpr c15
            have c15b1 : (t447 != 171) = true := bne_iff_ne.mpr c15
            obtain rfl := Option.some.inj H
            have p439 : 0 ≤ (x8_2 : Int) := of_decide_eq_true (by first | (with_reducible assumption) | assumption)
            have q439 : x8_2 < (l1.length : Int) := of_decide_eq_true (by first | (with_reducible assumption) | assumption)
            obtain ⟨ad439, e439, hx439_0⟩ := Kd.at_int HR1.out x8_2 p439 q439
            cases e439
            replace hx439_0 := (HB.out.cell (World.block_lt_of_cell? w _ hx439_0)).trans hx439_0
            replace p439 := eq_true p439
            replace q439 := eq_true q439
            have p440 : 0 ≤ (x8_2 : Int) := of_decide_eq_true (by first | (with_reducible assumption) | assumption)
            have q440 : x8_2 < (l0.length : Int) := of_decide_eq_true (by first | (with_reducible assumption) | assumption)
            obtain ⟨ad440, e440, hx440_0⟩ := Kd.at_int HR0.out x8_2 p440 q440
            cases e440
            replace hx440_0 := (HB.out.cell (World.block_lt_of_cell? w _ hx440_0)).trans hx440_0
            replace p440 := eq_true p440
            replace q440 := eq_true q440
            go_wp2_with (first | ((with_reducible refine gate_dst (N := 54) rfl ?_); (try (refine gate_guard (by rfl) ?_; dsimp only)); refine Kd.R_lit (Kd.int .i64) _ 3 ?hg (N := 54) ?hd (xs := ([rd l0 x8_2] : List Int)) (inner := [.int .i64 (rd l0 x8_2)]) (ok := fun _ => True) (okp := fun _ => True) ?hr ?hp (fun _ hk => hk) trivial (Below.refl _ _) (Nat.le_refl _) (by simp) ?_; (case hd => rfl); (case hg => rfl); (case hr => first | (go_simp; done) | (go_simp; rfl)); (case hp => exact (Reps.one (show Kd.M (Kd.int .i64) _ _ _ (rd l0 x8_2) [.int .i64 (rd l0 x8_2)] from rfl) (Reps.none _ _))); intro v442 w21 ho22 hb hg_ hnew_; clear hg_ hnew_; (first | rw [← Ny441.out] at ho22 | (simp only [Int.reduceToNat] at ho22; rw [← Ny441.out] at ho22)); have n0_ := Aside0.mk (Kd.V_elder' (mvV_ HO_6.out) (Kd.R_base ho22) hb); have n1_ := Aside0.mk (Kd.R_lower ho22 (below_size (bq0_ HB.out))); have n2_ := Aside0.mk (below_step (bq0_ HB.out) hb); clear HO_6; clear HB; have HO_6 := n0_; have HO443 := n1_; have HB := n2_; clear n0_ n1_ n2_; clear hb ho22; obtain ⟨Ao23, co23, eo23⟩ := Kd.R_slice HO443.out; subst eo23; obtain ⟨Ao24, co24, eo24⟩ := Kd.V_slice HO_6.out; subst eo24) | ((with_reducible refine gate_callee (f := 13) rfl ?_); refine goesL_ (some 56) rfl rfl Try.func13 (by kernel_rfl) rfl #[.slice Ao24 x6_2.length co24, .int .i64 (wrap64 ((wrap64 (x7_2 + 1)) + (wrap64 (rd l1 x8_2)))), .agg #[.slice none 0 0, .slice Ao23 y441.length co23]] rfl (by (try simp only [List.map_toArray, List.map_cons, List.map_nil]); first | done | rfl | (simp only [List.length_drop, List.length_take]; rfl)) ?_; (refine (chain_Put.calls k2 (fun k_ => (True ∧ some k_ ≠ (.slice Ao23 y441.length co23 : Value).ownBlock)) _ _ x6_2 (wrap64 ((wrap64 (x7_2 + 1)) + (wrap64 (rd l1 x8_2)))) _ _ ([] : List Int) _ _ y441 t444 t447 _ ?side1 ?side2 ?side3 ?side4 ?side5 A12.out).mono ?_); (case side1 => exact HO_6.out); (case side2 => exact Kd.C_nil _ _); (case side3 => exact Nat.le_refl _); (case side4 => repeat (first | exact (Kd.R_reads' HO443.out).2.2 | (with_reducible refine Kd.C_alloc ?_ _) | (with_reducible refine Kd.C_drewN ?_ _) | (with_reducible refine Kd.C_drew ?_))); (case side5 => exact (Kd.R_reads' HO443.out).2.1); rintro e w25 ⟨v445, rfl, ho0, hb⟩; refine ⟨_, rfl, ?_⟩; have n0_ := Aside0.mk (Kd.V_below (mvV_ HO_6.out) hb); have n1_ := Aside0.mk (Kd.R_below (mvR_ HO443.out) hb); have n2_ := Aside0.mk (Kd.V_lower (Kd.V_mono (ok' := fun k_ => some k_ ≠ (.slice Ao23 y441.length co23 : Value).ownBlock) ho0 (fun k_ hk_ => Or.elim hk_ (fun hs_ => hs_.2) (fun hn_ => (Kd.fresh' (Kd.R_lt (mvR_ HO443.out)) k_ hn_)))) (below_size (bq0_ HB.out))); have n3_ := Aside0.mk (below_step (bq0_ HB.out) hb); clear HO_6; clear HO443; clear HB; have HO_6 := n0_; have HO443 := n1_; have HO446 := n2_; have HB := n3_; clear n0_ n1_ n2_ n3_; (try clear hb); (try clear hb2); (try clear hk); (try clear hi); (try clear ho0)))
            go_ret
            exact ⟨by first | rfl | (simp [errW_none, errW_some] <;> rfl) | (simp [*, errW_none, errW_some] <;> rfl), by repeat (first | (with_reducible first | exact HB.out | apply below_alloc | apply pw_below_drewN | apply below_drew1) | exact HB.out)⟩
          ·rw [if_neg c14] at H
           have c14b0 : decide (16 ≤ x8_2) = false := decide_eq_false c14
           clear c14
           have H' := Aside0.mk H
           clear H
           have p439 : 0 ≤ (x8_2 : Int) := of_decide_eq_true (by first | (with_reducible assumption) | assumption)
           have q439 : x8_2 < (l1.length : Int) := of_decide_eq_true (by first | (with_reducible assumption) | assumption)
           obtain ⟨ad439, e439, hx439_0⟩ := Kd.at_int HR1.out x8_2 p439 q439
           cases e439
           replace hx439_0 := (HB.out.cell (World.block_lt_of_cell? w _ hx439_0)).trans hx439_0
           replace p439 := eq_true p439
           replace q439 := eq_true q439
           have p440 : 0 ≤ (x8_2 : Int) := of_decide_eq_true (by first | (with_reducible assumption) | assumption)
           have q440 : x8_2 < (l0.length : Int) := of_decide_eq_true (by first | (with_reducible assumption) | assumption)
           obtain ⟨ad440, e440, hx440_0⟩ := Kd.at_int HR0.out x8_2 p440 q440
           cases e440
           replace hx440_0 := (HB.out.cell (World.block_lt_of_cell? w _ hx440_0)).trans hx440_0
           replace p440 := eq_true p440
           replace q440 := eq_true q440
           go_wp2_with (first | ((with_reducible refine gate_dst (N := 54) rfl ?_); (try (refine gate_guard (by rfl) ?_; dsimp only)); refine Kd.R_lit (Kd.int .i64) _ 3 ?hg (N := 54) ?hd (xs := ([rd l0 x8_2] : List Int)) (inner := [.int .i64 (rd l0 x8_2)]) (ok := fun _ => True) (okp := fun _ => True) ?hr ?hp (fun _ hk => hk) trivial (Below.refl _ _) (Nat.le_refl _) (by simp) ?_; (case hd => rfl); (case hg => rfl); (case hr => first | (go_simp; done) | (go_simp; rfl)); (case hp => exact (Reps.one (show Kd.M (Kd.int .i64) _ _ _ (rd l0 x8_2) [.int .i64 (rd l0 x8_2)] from rfl) (Reps.none _ _))); intro v442 w26 ho27 hb hg_ hnew_; clear hg_ hnew_; (first | rw [← Ny441.out] at ho27 | (simp only [Int.reduceToNat] at ho27; rw [← Ny441.out] at ho27)); have n0_ := Aside0.mk (Kd.V_elder' (mvV_ HO_6.out) (Kd.R_base ho27) hb); have n1_ := Aside0.mk (Kd.R_lower ho27 (below_size (bq0_ HB.out))); have n2_ := Aside0.mk (below_step (bq0_ HB.out) hb); clear HO_6; clear HB; have HO_6 := n0_; have HO443 := n1_; have HB := n2_; clear n0_ n1_ n2_; clear hb ho27; obtain ⟨Ao28, co28, eo28⟩ := Kd.R_slice HO443.out; subst eo28; obtain ⟨Ao29, co29, eo29⟩ := Kd.V_slice HO_6.out; subst eo29) | ((with_reducible refine gate_callee (f := 13) rfl ?_); refine goesL_ (some 56) rfl rfl Try.func13 (by kernel_rfl) rfl #[.slice Ao29 x6_2.length co29, .int .i64 (wrap64 ((wrap64 (x7_2 + 1)) + (wrap64 (rd l1 x8_2)))), .agg #[.slice none 0 0, .slice Ao28 y441.length co28]] rfl (by (try simp only [List.map_toArray, List.map_cons, List.map_nil]); first | done | rfl | (simp only [List.length_drop, List.length_take]; rfl)) ?_; (refine (chain_Put.calls k2 (fun k_ => (True ∧ some k_ ≠ (.slice Ao28 y441.length co28 : Value).ownBlock)) _ _ x6_2 (wrap64 ((wrap64 (x7_2 + 1)) + (wrap64 (rd l1 x8_2)))) _ _ ([] : List Int) _ _ y441 t444 t447 _ ?side1 ?side2 ?side3 ?side4 ?side5 A12.out).mono ?_); (case side1 => exact HO_6.out); (case side2 => exact Kd.C_nil _ _); (case side3 => exact Nat.le_refl _); (case side4 => repeat (first | exact (Kd.R_reads' HO443.out).2.2 | (with_reducible refine Kd.C_alloc ?_ _) | (with_reducible refine Kd.C_drewN ?_ _) | (with_reducible refine Kd.C_drew ?_))); (case side5 => exact (Kd.R_reads' HO443.out).2.1); rintro e w30 ⟨v445, rfl, ho0, hb⟩; refine ⟨_, rfl, ?_⟩; have n0_ := Aside0.mk (Kd.V_below (mvV_ HO_6.out) hb); have n1_ := Aside0.mk (Kd.R_below (mvR_ HO443.out) hb); have n2_ := Aside0.mk (Kd.V_lower (Kd.V_mono (ok' := fun k_ => some k_ ≠ (.slice Ao28 y441.length co28 : Value).ownBlock) ho0 (fun k_ hk_ => Or.elim hk_ (fun hs_ => hs_.2) (fun hn_ => (Kd.fresh' (Kd.R_lt (mvR_ HO443.out)) k_ hn_)))) (below_size (bq0_ HB.out))); have n3_ := Aside0.mk (below_step (bq0_ HB.out) hb); clear HO_6; clear HO443; clear HB; have HO_6 := n0_; have HO443 := n1_; have HO446 := n2_; have HB := n3_; clear n0_ n1_ n2_ n3_; (try clear hb); (try clear hb2); (try clear hk); (try clear hi); (try clear ho0)))
           go_roundg k2
           case measure => have := HJ3.out; have := HK2.out; omega
           case rel => exact ⟨(t444), (wrap64 ((wrap64 (x7_2 + 1)) + (wrap64 (rd l1 x8_2)))), (wrap64 (x8_2 + 1)), (by first | rfl | (simp; done) | (simp [*]; done)), (by first | rfl | (simp; done) | (simp [*]; done)), H', ⟨by have := HJ3.out; have := HK2.out; omega⟩, ⟨by (with_reducible repeat (first | apply Kd.V_alloc | apply Kd.V_drewN | apply Kd.V_drew)); exact Kd.V_mono HO446.out (fun _ hk => trivial)⟩, ⟨by repeat (first | (with_reducible first | exact HB.out | apply below_alloc | apply pw_below_drewN | apply below_drew1) | exact HB.out)⟩⟩
        ·rw [if_neg c11] at H
         exact absurd H (by simp)
       ·rw [if_neg c10] at H
        exact absurd H (by simp)
      ·rw [if_neg c9] at H
       have c9b0 : decide (x8_2 < (l0.length : Int)) = false := decide_eq_false c9
       clear c9
       have H' := Aside0.mk H
       clear H
       go_wp2
       go_loopg [7, 11] k2 (fun kq v7 v11 w' => ∃ (x7_3 : Int) (x11_3 : Int), v7 = .int .i64 x7_3 ∧ v11 = .int .i64 x11_3 ∧ Aside0 (fullerlaw17_ChainMany.l1 kq l0 l1 t438 x6_2 x7_3 x11_3 = some r) ∧ Aside0 (kq ≤ k2) ∧ Aside0 (Kd.V k41 41 w' w.heap.size (fun _ => True) u6 x6_2) ∧ Aside0 (Below w.heap.size w w'))
       case atStart => exact ⟨(0), (0), (by first | rfl | (simp; done) | (simp [*]; done)), (by first | rfl | (simp; done) | (simp [*]; done)), H', ⟨Nat.le_refl _⟩, ⟨by (with_reducible repeat (first | apply Kd.V_alloc | apply Kd.V_drewN | apply Kd.V_drew)); exact HO_6.out⟩, ⟨by repeat (first | (with_reducible first | exact HB.out | apply below_alloc | apply pw_below_drewN | apply below_drew1) | exact HB.out)⟩⟩
       case round =>
        clear H'
        try clear c1
        try clear p2
        try clear p4
        try clear q4
        try clear hx4
        try clear c6
        try clear c6b0
        try clear c6b1
        try clear p6
        try clear c7
        try clear c7b0
        try clear c7b1
        try clear c8
        try clear c9
        try clear c9b0
        try clear c10
        try clear c10b0
        try clear c11
        try clear c11b0
        try clear c13
        try clear c13b0
        try clear c13b1
        try clear c13b2
        try clear c14
        try clear c14b0
        try clear c15
        try clear c15b0
        try clear c15b1
        try clear hx439_0
        try clear hx440_0
        try clear p2
        try clear p439
        try clear p440
        try clear q439
        try clear q440
        obtain ⟨x7_3, x11_3, rfl, rfl, HA, HK3, HO_6, HB⟩ := hrel
        cases gk with
        | zero => exact absurd HA.out (by simp [fullerlaw17_ChainMany.l1])
        | succ k3 =>
         have H := HA.out
         clear HA
         simp only [fullerlaw17_ChainMany.l1] at H
         have HC31 := Aside0.mk H
         clear H
         go_upto_region 16 with (fail)
         go_cut [80] (fun v80 wc => ∃ (kq : Nat) (x80_30 : Bool), v80 = .bool x80_30 ∧ Aside0 (fullerlaw17_ChainMany.j3 kq l0 l1 t438 x6_2 x7_3 x11_3 x80_30 = some r) ∧ Aside0 (kq ≤ k3) ∧ Aside0 (Kd.V k41 41 wc w.heap.size (fun _ => True) u6 x6_2) ∧ Aside0 (Below w.heap.size w wc))
         case first =>
          have H := HC31.out
          clear HC31
          by_cases c32 : x11_3 < (l0.length : Int)
          ·rw [if_pos c32] at H
           have c32b0 : decide (x11_3 < (l0.length : Int)) = true := decide_eq_true c32
           clear c32
           (first | rw [c32b0] | (simp only [i64_w, i32_w]; rw [c32b0]) | skip)
           have H' := Aside0.mk H
           clear H
           go_wp2
           go_meet
           case rel => exact ⟨_, (decide (x11_3 < 16)), (by first | rfl | (simp; done) | (simp [*]; done)), H', ⟨by have := HJ3.out; have := HK2.out; have := HK3.out; first | omega | exact Nat.le_refl _⟩, ⟨by (with_reducible repeat (first | apply Kd.V_alloc | apply Kd.V_drewN | apply Kd.V_drew)); exact HO_6.out⟩, ⟨by repeat (first | (with_reducible first | exact HB.out | apply below_alloc | apply pw_below_drewN | apply below_drew1) | exact HB.out)⟩⟩
          ·rw [if_neg c32] at H
           have c32b0 : decide (x11_3 < (l0.length : Int)) = false := decide_eq_false c32
           clear c32
           (first | rw [c32b0] | (simp only [i64_w, i32_w]; rw [c32b0]) | skip)
           have H' := Aside0.mk H
           clear H
           go_wp2
           go_meet
           case rel => exact ⟨_, (false), (by first | rfl | (simp; done) | (simp [*]; done)), H', ⟨by have := HJ3.out; have := HK2.out; have := HK3.out; first | omega | exact Nat.le_refl _⟩, ⟨by (with_reducible repeat (first | apply Kd.V_alloc | apply Kd.V_drewN | apply Kd.V_drew)); exact HO_6.out⟩, ⟨by repeat (first | (with_reducible first | exact HB.out | apply below_alloc | apply pw_below_drewN | apply below_drew1) | exact HB.out)⟩⟩
         case rest =>
          clear HC31
          try clear c1
          try clear p2
          try clear c3
          try clear p4
          try clear q4
          try clear hx4
          try clear c6
          try clear c6b0
          try clear c6b1
          try clear p6
          try clear c7
          try clear c7b0
          try clear c7b1
          try clear c8
          try clear c9
          try clear c9b0
          try clear c10
          try clear c10b0
          try clear c11
          try clear c11b0
          try clear c13
          try clear c13b0
          try clear c13b1
          try clear c13b2
          try clear c14
          try clear c14b0
          try clear c15
          try clear c15b0
          try clear c15b1
          try clear c32
          try clear c32b0
          try clear hx439_0
          try clear hx440_0
          try clear p2
          try clear p4
          try clear p439
          try clear p440
          try clear p6
          try clear q4
          try clear q439
          try clear q440
          obtain ⟨kq, x80_30, rfl, HA, HJ30, HO_6, HB⟩ := hcut
          cases kq with
          | zero => exact absurd HA.out (by simp [fullerlaw17_ChainMany.j3])
          | succ kj30 =>
           have H := HA.out
           clear HA
           simp only [fullerlaw17_ChainMany.j3] at H
           by_cases c33 : x80_30 = true
           ·subst c33
            have H1 : (if 0 ≤ x11_3 then (if x11_3 < (l1.length : Int) then ((chain_Read.f kj30 x6_2 (wrap64 ((wrap64 (x7_3 + 1)) + (wrap64 (rd l1 x11_3))))).bind fun bt449 => ((chain_Read.f kj30 x6_2 (wrap64 ((wrap64 ((wrap64 (x7_3 + 1)) + (wrap64 (rd l1 x11_3)))) - 1))).bind fun bt457 => (if bt449.2.2 = true then (if x11_3 < (l0.length : Int) then ((fullerref02_Same.f kj30 bt449.2.1 (([rd l0 x11_3] : List Int))).bind fun t469 => (if t469 = true then (if (bt457.2.2 != (decide (x11_3 > 0))) = true then (none) else (if x11_3 > 0 then (if 0 ≤ (wrap64 (x11_3 - 1)) then (if (wrap64 (x11_3 - 1)) < (l0.length : Int) then ((fullerref02_Same.f kj30 bt457.2.1 (([rd l0 (wrap64 (x11_3 - 1))] : List Int))).bind fun t474 => (if t474 = true then (fullerlaw17_ChainMany.l1 kj30 l0 l1 t438 x6_2 (wrap64 ((wrap64 (x7_3 + 1)) + (wrap64 (rd l1 x11_3)))) (wrap64 (x11_3 + 1))) else (some false))) else (none)) else (none)) else (fullerlaw17_ChainMany.l1 kj30 l0 l1 t438 x6_2 (wrap64 ((wrap64 (x7_3 + 1)) + (wrap64 (rd l1 x11_3)))) (wrap64 (x11_3 + 1))))) else (none))) else (none)) else (none)))) else (none)) else (none)) = some r := by rw [if_pos rfl] at H; exact H
            clear H
            have H := H1
            clear H1
            by_cases c34 : 0 ≤ x11_3
            ·rw [if_pos c34] at H
             have c34b0 : decide (0 ≤ x11_3) = true := decide_eq_true c34
             clear c34
             by_cases c35 : x11_3 < (l1.length : Int)
             ·rw [if_pos c35] at H
              have c35b0 : decide (x11_3 < (l1.length : Int)) = true := decide_eq_true c35
              clear c35
              replace H := Option.bind_eq_some_iff.mp H
              obtain ⟨⟨t449, t452, t455⟩, A360, H⟩ := H
              replace H : ((chain_Read.f kj30 x6_2 (wrap64 ((wrap64 ((wrap64 (x7_3 + 1)) + (wrap64 (rd l1 x11_3)))) - 1))).bind fun bt457 => (if t455 = true then (if x11_3 < (l0.length : Int) then ((fullerref02_Same.f kj30 t452 (([rd l0 x11_3] : List Int))).bind fun t469 => (if t469 = true then (if (bt457.2.2 != (decide (x11_3 > 0))) = true then (none) else (if x11_3 > 0 then (if 0 ≤ (wrap64 (x11_3 - 1)) then (if (wrap64 (x11_3 - 1)) < (l0.length : Int) then ((fullerref02_Same.f kj30 bt457.2.1 (([rd l0 (wrap64 (x11_3 - 1))] : List Int))).bind fun t474 => (if t474 = true then (fullerlaw17_ChainMany.l1 kj30 l0 l1 t438 x6_2 (wrap64 ((wrap64 (x7_3 + 1)) + (wrap64 (rd l1 x11_3)))) (wrap64 (x11_3 + 1))) else (some false))) else (none)) else (none)) else (fullerlaw17_ChainMany.l1 kj30 l0 l1 t438 x6_2 (wrap64 ((wrap64 (x7_3 + 1)) + (wrap64 (rd l1 x11_3)))) (wrap64 (x11_3 + 1))))) else (none))) else (none)) else (none))) = some r := H
              have A36 := Aside0.mk A360
              clear A360
              replace H := Option.bind_eq_some_iff.mp H
              obtain ⟨⟨t457, t460, t463⟩, A370, H⟩ := H
              replace H : (if t455 = true then (if x11_3 < (l0.length : Int) then ((fullerref02_Same.f kj30 t452 (([rd l0 x11_3] : List Int))).bind fun t469 => (if t469 = true then (if (t463 != (decide (x11_3 > 0))) = true then (none) else (if x11_3 > 0 then (if 0 ≤ (wrap64 (x11_3 - 1)) then (if (wrap64 (x11_3 - 1)) < (l0.length : Int) then ((fullerref02_Same.f kj30 t460 (([rd l0 (wrap64 (x11_3 - 1))] : List Int))).bind fun t474 => (if t474 = true then (fullerlaw17_ChainMany.l1 kj30 l0 l1 t438 x6_2 (wrap64 ((wrap64 (x7_3 + 1)) + (wrap64 (rd l1 x11_3)))) (wrap64 (x11_3 + 1))) else (some false))) else (none)) else (none)) else (fullerlaw17_ChainMany.l1 kj30 l0 l1 t438 x6_2 (wrap64 ((wrap64 (x7_3 + 1)) + (wrap64 (rd l1 x11_3)))) (wrap64 (x11_3 + 1))))) else (none))) else (none)) else (none)) = some r := H
              have A37 := Aside0.mk A370
              clear A370
              by_cases c38 : t455 = true
              ·subst c38
               have H1 : (if x11_3 < (l0.length : Int) then ((fullerref02_Same.f kj30 t452 (([rd l0 x11_3] : List Int))).bind fun t469 => (if t469 = true then (if (t463 != (decide (x11_3 > 0))) = true then (none) else (if x11_3 > 0 then (if 0 ≤ (wrap64 (x11_3 - 1)) then (if (wrap64 (x11_3 - 1)) < (l0.length : Int) then ((fullerref02_Same.f kj30 t460 (([rd l0 (wrap64 (x11_3 - 1))] : List Int))).bind fun t474 => (if t474 = true then (fullerlaw17_ChainMany.l1 kj30 l0 l1 t438 x6_2 (wrap64 ((wrap64 (x7_3 + 1)) + (wrap64 (rd l1 x11_3)))) (wrap64 (x11_3 + 1))) else (some false))) else (none)) else (none)) else (fullerlaw17_ChainMany.l1 kj30 l0 l1 t438 x6_2 (wrap64 ((wrap64 (x7_3 + 1)) + (wrap64 (rd l1 x11_3)))) (wrap64 (x11_3 + 1))))) else (none))) else (none)) = some r := by rw [if_pos rfl] at H; exact H
               clear H
               have H := H1
               clear H1
               by_cases c39 : x11_3 < (l0.length : Int)
               ·rw [if_pos c39] at H
                have c39b0 : decide (x11_3 < (l0.length : Int)) = true := decide_eq_true c39
                clear c39
                obtain ⟨y466, hy466⟩ : ∃ y_ : List Int, y_ = (([rd l0 x11_3] : List Int)) := ⟨_, rfl⟩
                replace H : ((fullerref02_Same.f kj30 t452 y466).bind fun t469 => (if t469 = true then (if (t463 != (decide (x11_3 > 0))) = true then (none) else (if x11_3 > 0 then (if 0 ≤ (wrap64 (x11_3 - 1)) then (if (wrap64 (x11_3 - 1)) < (l0.length : Int) then ((fullerref02_Same.f kj30 t460 (([rd l0 (wrap64 (x11_3 - 1))] : List Int))).bind fun t474 => (if t474 = true then (fullerlaw17_ChainMany.l1 kj30 l0 l1 t438 x6_2 (wrap64 ((wrap64 (x7_3 + 1)) + (wrap64 (rd l1 x11_3)))) (wrap64 (x11_3 + 1))) else (some false))) else (none)) else (none)) else (fullerlaw17_ChainMany.l1 kj30 l0 l1 t438 x6_2 (wrap64 ((wrap64 (x7_3 + 1)) + (wrap64 (rd l1 x11_3)))) (wrap64 (x11_3 + 1))))) else (none))) = some r := by first | (rw [hy466]; with_reducible exact H) | (have H2_ := (Option.bind_some _ _).symm.trans H; rw [hy466]; with_reducible exact H2_) | (have H2_ := (Option.bind_some _ _).symm.trans H; with_reducible exact H2_) | with_reducible exact H | (rw [hy466]; exact H) | exact H
                have Ny466 := Aside0.mk hy466
                clear hy466
                replace H := Option.bind_eq_some_iff.mp H
                obtain ⟨t469, A400, H⟩ := H
                replace H : (if t469 = true then (if (t463 != (decide (x11_3 > 0))) = true then (none) else (if x11_3 > 0 then (if 0 ≤ (wrap64 (x11_3 - 1)) then (if (wrap64 (x11_3 - 1)) < (l0.length : Int) then ((fullerref02_Same.f kj30 t460 (([rd l0 (wrap64 (x11_3 - 1))] : List Int))).bind fun t474 => (if t474 = true then (fullerlaw17_ChainMany.l1 kj30 l0 l1 t438 x6_2 (wrap64 ((wrap64 (x7_3 + 1)) + (wrap64 (rd l1 x11_3)))) (wrap64 (x11_3 + 1))) else (some false))) else (none)) else (none)) else (fullerlaw17_ChainMany.l1 kj30 l0 l1 t438 x6_2 (wrap64 ((wrap64 (x7_3 + 1)) + (wrap64 (rd l1 x11_3)))) (wrap64 (x11_3 + 1))))) else (none)) = some r := H
                have A40 := Aside0.mk A400
                clear A400
                by_cases c41 : t469 = true
                ·subst c41
                 have H1 : (if (t463 != (decide (x11_3 > 0))) = true then (none) else (if x11_3 > 0 then (if 0 ≤ (wrap64 (x11_3 - 1)) then (if (wrap64 (x11_3 - 1)) < (l0.length : Int) then ((fullerref02_Same.f kj30 t460 (([rd l0 (wrap64 (x11_3 - 1))] : List Int))).bind fun t474 => (if t474 = true then (fullerlaw17_ChainMany.l1 kj30 l0 l1 t438 x6_2 (wrap64 ((wrap64 (x7_3 + 1)) + (wrap64 (rd l1 x11_3)))) (wrap64 (x11_3 + 1))) else (some false))) else (none)) else (none)) else (fullerlaw17_ChainMany.l1 kj30 l0 l1 t438 x6_2 (wrap64 ((wrap64 (x7_3 + 1)) + (wrap64 (rd l1 x11_3)))) (wrap64 (x11_3 + 1))))) = some r := by rw [if_pos rfl] at H; exact H
                 clear H
                 have H := H1
                 clear H1
                 by_cases c42 : (t463 != (decide (x11_3 > 0))) = true
                 ·rw [if_pos c42] at H
                  exact absurd H (by simp)
                 ·rw [if_neg c42] at H
                  have c42b0 : (t463 != (decide (x11_3 > 0))) = false := by simpa using c42
                  (try (have c42b1 : decide (t463 = (decide (x11_3 > 0))) = true := by simpa using c42))
                  (try (have c42b2 : (t463 == (decide (x11_3 > 0))) = true := by simpa using c42))
                  clear c42
                  by_cases c43 : x11_3 > 0
                  ·rw [if_pos c43] at H
                   have c43b0 : decide (0 < x11_3) = true := decide_eq_true c43
                   (try (simp only [gt_iff_lt, ge_iff_le, c43b0] at c42b0)); (try simp at c42b0)
                   clear c43
                   obtain ⟨ji44, hji44⟩ : ∃ j_ : Int, (wrap64 (x11_3 - 1)) = j_ := ⟨_, rfl⟩
                   replace H : (if 0 ≤ (ji44) then (if (ji44) < (l0.length : Int) then ((fullerref02_Same.f kj30 t460 (([rd l0 (ji44)] : List Int))).bind fun t474 => (if t474 = true then (fullerlaw17_ChainMany.l1 kj30 l0 l1 t438 x6_2 (wrap64 ((wrap64 (x7_3 + 1)) + (wrap64 (rd l1 x11_3)))) (wrap64 (x11_3 + 1))) else (some false))) else (none)) else (none)) = some r := by first | (rw [hji44] at H; exact H) | (simp only [hji44] at H ⊢; exact H)
                   (try rw [hji44] at A36)
                   (try rw [hji44] at A37)
                   (try rw [hji44] at A40)
                   have hji44w : (IntKind.i64.wrap (x11_3 - 1)) = ji44 := (i64_w _).trans hji44
                   by_cases c45 : 0 ≤ (ji44)
                   ·rw [if_pos c45] at H
                    have c45b0 : decide (0 ≤ (ji44)) = true := decide_eq_true c45
                    clear c45
                    by_cases c46 : (ji44) < (l0.length : Int)
                    ·rw [if_pos c46] at H
                     have c46b0 : decide ((ji44) < (l0.length : Int)) = true := decide_eq_true c46
                     clear c46
                     obtain ⟨y471, hy471⟩ : ∃ y_ : List Int, y_ = (([rd l0 (ji44)] : List Int)) := ⟨_, rfl⟩
                     replace H : ((fullerref02_Same.f kj30 t460 y471).bind fun t474 => (if t474 = true then (fullerlaw17_ChainMany.l1 kj30 l0 l1 t438 x6_2 (wrap64 ((wrap64 (x7_3 + 1)) + (wrap64 (rd l1 x11_3)))) (wrap64 (x11_3 + 1))) else (some false))) = some r := by first | (rw [hy471]; with_reducible exact H) | (have H2_ := (Option.bind_some _ _).symm.trans H; rw [hy471]; with_reducible exact H2_) | (have H2_ := (Option.bind_some _ _).symm.trans H; with_reducible exact H2_) | with_reducible exact H | (rw [hy471]; exact H) | exact H
                     have Ny471 := Aside0.mk hy471
                     clear hy471
                     replace H := Option.bind_eq_some_iff.mp H
                     obtain ⟨t474, A470, H⟩ := H
                     replace H : (if t474 = true then (fullerlaw17_ChainMany.l1 kj30 l0 l1 t438 x6_2 (wrap64 ((wrap64 (x7_3 + 1)) + (wrap64 (rd l1 x11_3)))) (wrap64 (x11_3 + 1))) else (some false)) = some r := H
                     have A47 := Aside0.mk A470
                     clear A470
                     by_cases c48 : t474 = true
                     ·subst c48
                      have H1 : (fullerlaw17_ChainMany.l1 kj30 l0 l1 t438 x6_2 (wrap64 ((wrap64 (x7_3 + 1)) + (wrap64 (rd l1 x11_3)))) (wrap64 (x11_3 + 1))) = some r := by rw [if_pos rfl] at H; exact H
                      clear H
                      have H := H1
                      clear H1
                      have H' := Aside0.mk H
                      clear H
                      have p448 : 0 ≤ (x11_3 : Int) := of_decide_eq_true (by first | (with_reducible assumption) | assumption)
                      have q448 : x11_3 < (l1.length : Int) := of_decide_eq_true (by first | (with_reducible assumption) | assumption)
                      obtain ⟨ad448, e448, hx448_0⟩ := Kd.at_int HR1.out x11_3 p448 q448
                      cases e448
                      replace hx448_0 := (HB.out.cell (World.block_lt_of_cell? w _ hx448_0)).trans hx448_0
                      replace p448 := eq_true p448
                      replace q448 := eq_true q448
                      obtain ⟨Ao49, co49, eo49⟩ := Kd.V_slice HO_6.out
                      subst eo49
                      try go_wp2_with (first | ((with_reducible refine gate_callee (f := 11) rfl ?_); refine goesL_ (some 94) rfl rfl Try.func11 (by kernel_rfl) rfl #[.slice Ao49 x6_2.length co49, .int .i64 (wrap64 ((wrap64 (x7_3 + 1)) + (wrap64 (rd l1 x11_3))))] rfl (by (try simp only [List.map_toArray, List.map_cons, List.map_nil]); first | done | rfl | (simp only [List.length_drop, List.length_take]; rfl)) ?_; (with_reducible refine (chain_Read.calls kj30 _ _ x6_2 (wrap64 ((wrap64 (x7_3 + 1)) + (wrap64 (rd l1 x11_3)))) t449 t452 true _ ?side1 ?side2 A36.out).mono ?_); (case side1 => repeat (first | exact (Kd.V_reads' HO_6.out).2.2 | (with_reducible refine Kd.C_alloc ?_ _) | (with_reducible refine Kd.C_drewN ?_ _) | (with_reducible refine Kd.C_drew ?_))); (case side2 => exact (Kd.V_reads' HO_6.out).2.1); rintro e w50 ⟨v450, v453, rfl, ho0, ho1, hb⟩; refine ⟨_, rfl, ?_⟩; have n0_ := Aside0.mk (Kd.V_mono (Kd.V_told (Kd.V_told (Kd.V_old (mvV_ HO_6.out) hb) (Kd.R_base ho0)) (Kd.R_base ho1)) (fun _ h_ => h_.1)); have n1_ := Aside0.mk (Kd.R_lower ho0 (below_size (bq0_ HB.out))); have n2_ := Aside0.mk (Kd.R_lower ho1 (below_size (bq0_ HB.out))); have n3_ := Aside0.mk (below_step (bq0_ HB.out) hb); clear HO_6; clear HB; have HO_6 := n0_; have HO451 := n1_; have HO454 := n2_; have HB := n3_; clear n0_ n1_ n2_ n3_; (try clear hb); (try clear hb2); (try clear hk); (try clear hi); (try clear ho0); (try clear ho1)) | ((with_reducible refine gate_dst (N := 12) rfl ?_); (try (refine gate_guard (by rfl) ?_; dsimp only)); refine box_event ?hg (N := 12) ?hd (cs := #[.slice none 0 0, .slice none 0 0]) (t := 25) ?hr ?_; (case hd => rfl); (case hg => rfl); (case hr => first | (go_simp; done) | (go_simp; rfl)); intro gb456 hg w51 hbox hb; have n0_ := Aside0.mk (Kd.V_below (Kd.V_elderB (mvV_ HO_6.out) gb456 (Nat.le_of_eq hg.symm)) hb); have n1_ := Aside0.mk (Kd.R_below (mvR_ HO451.out) hb); have n2_ := Aside0.mk (Kd.R_below (mvR_ HO454.out) hb); have n3_ := Aside0.mk (below_step (bq0_ HB.out) hb); have n4_ := Aside0.mk (hbox); have n5_ := Aside0.mk ((by rw [hg]; exact (below_size (bq0_ HB.out)) : w.heap.size ≤ gb456)); have n6_ := Aside0.mk ((by rw [hg]; exact (below_size (bq0_ HB.out)) : w.heap.size ≤ gb456)); clear HO_6; clear HO451; clear HO454; clear HB; have HO_6 := n0_; have HO451 := n1_; have HO454 := n2_; have HB := n3_; have BK456 := n4_; have GW456 := n5_; have GE456 := n6_; clear n0_ n1_ n2_ n3_ n4_ n5_ n6_; clear hb hbox hg; obtain ⟨Ao52, co52, eo52⟩ := Kd.R_slice HO451.out; subst eo52; have hcz53_0 : w51.cell? ⟨gb456, 0, none⟩ = some (.slice none 0 0) := (blk_cell BK456.out 0).trans rfl; have hcz53_1 : w51.cell? ⟨gb456, 1, none⟩ = some (.slice none 0 0) := (blk_cell BK456.out 1).trans rfl; have hfz53_0 := blk_frozen BK456.out 0; have hfz53_1 := blk_frozen BK456.out 1; obtain ⟨Ao54, co54, eo54⟩ := Kd.R_slice HO454.out; subst eo54) | ((with_reducible refine gate_callee (f := 11) rfl ?_); refine goesL_ (some 101) rfl rfl Try.func11 (by kernel_rfl) rfl #[.slice Ao49 x6_2.length co49, .int .i64 (wrap64 ((wrap64 ((wrap64 (x7_3 + 1)) + (wrap64 (rd l1 x11_3)))) - 1))] rfl (by (try simp only [List.map_toArray, List.map_cons, List.map_nil]); first | done | rfl | (simp only [List.length_drop, List.length_take]; rfl)) ?_; (with_reducible refine (chain_Read.calls kj30 _ _ x6_2 (wrap64 ((wrap64 ((wrap64 (x7_3 + 1)) + (wrap64 (rd l1 x11_3)))) - 1)) t457 t460 t463 _ ?side1 ?side2 A37.out).mono ?_); (case side1 => refine (Kd.V_reads' (e := 41) (base := w.heap.size) (ok := fun k_ => (((True ∧ some k_ ≠ (.slice Ao52 t449.length co52 : Value).ownBlock) ∧ some k_ ≠ (.slice Ao54 t452.length co54 : Value).ownBlock) ∧ k_ ≠ gb456)) (n := x6_2.length) (c := co49) ?_).2.2; exact (by (with_reducible repeat (first | apply Kd.V_alloc | apply Kd.V_drewN | apply Kd.V_drew)); exact (Kd.V_mono (Kd.V_far (p := ⟨gb456, 1, none⟩) (Kd.V_far (p := ⟨gb456, 0, none⟩) (Kd.V_mono HO_6.out (fun k_ hk => (⟨hk, hk.2⟩ : _ ∧ k_ ≠ gb456))) (fun _ hk => hk.2) (.slice Ao52 t449.length co52)) (fun _ hk => hk.2) (.slice Ao54 t452.length co54)) (fun _ h_ => h_.1)))); (case side2 => exact (Kd.V_reads' HO_6.out).2.1); rintro e w55 ⟨v458, v461, rfl, ho0, ho1, hb⟩; refine ⟨_, rfl, ?_⟩; have n0_ := Aside0.mk (Kd.V_mono (Kd.V_told (Kd.V_told (Kd.V_old (by (with_reducible repeat (first | apply Kd.V_alloc | apply Kd.V_drewN | apply Kd.V_drew)); exact (Kd.V_mono (Kd.V_far (p := ⟨gb456, 1, none⟩) (Kd.V_far (p := ⟨gb456, 0, none⟩) (Kd.V_mono HO_6.out (fun k_ hk => (⟨hk, hk.2⟩ : _ ∧ k_ ≠ gb456))) (fun _ hk => hk.2) (.slice Ao52 t449.length co52)) (fun _ hk => hk.2) (.slice Ao54 t452.length co54)) (fun _ h_ => h_.1))) hb) (Kd.R_base ho0)) (Kd.R_base ho1)) (fun _ h_ => h_.1)); have n1_ := Aside0.mk (Kd.R_mono (Kd.R_told (Kd.R_told (Kd.R_old (by (with_reducible repeat (first | apply Kd.R_alloc | apply Kd.R_drewN | apply Kd.R_drew)); exact (Kd.R_mono (Kd.R_far (p := ⟨gb456, 1, none⟩) (Kd.R_far (p := ⟨gb456, 0, none⟩) (Kd.R_types HO451.out BK456.out (by decide)) (fun _ hk => hk.2) (.slice Ao52 t449.length co52)) (fun _ hk => hk.2) (.slice Ao54 t452.length co54)) (fun _ h_ => h_.1))) hb) (Kd.R_base ho0)) (Kd.R_base ho1)) (fun _ h_ => h_.1)); have n2_ := Aside0.mk (Kd.R_mono (Kd.R_told (Kd.R_told (Kd.R_old (by (with_reducible repeat (first | apply Kd.R_alloc | apply Kd.R_drewN | apply Kd.R_drew)); exact (Kd.R_mono (Kd.R_far (p := ⟨gb456, 1, none⟩) (Kd.R_far (p := ⟨gb456, 0, none⟩) (Kd.R_types HO454.out BK456.out (by decide)) (fun _ hk => hk.2) (.slice Ao52 t449.length co52)) (fun _ hk => hk.2) (.slice Ao54 t452.length co54)) (fun _ h_ => h_.1))) hb) (Kd.R_base ho0)) (Kd.R_base ho1)) (fun _ h_ => h_.1)); have n3_ := Aside0.mk (Kd.R_lower (Kd.R_new' (Kd.R_new' ho0 (Kd.R_lt (by (with_reducible repeat (first | apply Kd.R_alloc | apply Kd.R_drewN | apply Kd.R_drew)); exact (Kd.R_mono (Kd.R_far (p := ⟨gb456, 1, none⟩) (Kd.R_far (p := ⟨gb456, 0, none⟩) (Kd.R_types HO451.out BK456.out (by decide)) (fun _ hk => hk.2) (.slice Ao52 t449.length co52)) (fun _ hk => hk.2) (.slice Ao54 t452.length co54)) (fun _ h_ => h_.1))))) (Kd.R_lt (by (with_reducible repeat (first | apply Kd.R_alloc | apply Kd.R_drewN | apply Kd.R_drew)); exact (Kd.R_mono (Kd.R_far (p := ⟨gb456, 1, none⟩) (Kd.R_far (p := ⟨gb456, 0, none⟩) (Kd.R_types HO454.out BK456.out (by decide)) (fun _ hk => hk.2) (.slice Ao52 t449.length co52)) (fun _ hk => hk.2) (.slice Ao54 t452.length co54)) (fun _ h_ => h_.1))))) (below_size (bq1_ HB.out GE456.out))); have n4_ := Aside0.mk (Kd.R_lower (Kd.R_new' (Kd.R_new' ho1 (Kd.R_lt (by (with_reducible repeat (first | apply Kd.R_alloc | apply Kd.R_drewN | apply Kd.R_drew)); exact (Kd.R_mono (Kd.R_far (p := ⟨gb456, 1, none⟩) (Kd.R_far (p := ⟨gb456, 0, none⟩) (Kd.R_types HO451.out BK456.out (by decide)) (fun _ hk => hk.2) (.slice Ao52 t449.length co52)) (fun _ hk => hk.2) (.slice Ao54 t452.length co54)) (fun _ h_ => h_.1))))) (Kd.R_lt (by (with_reducible repeat (first | apply Kd.R_alloc | apply Kd.R_drewN | apply Kd.R_drew)); exact (Kd.R_mono (Kd.R_far (p := ⟨gb456, 1, none⟩) (Kd.R_far (p := ⟨gb456, 0, none⟩) (Kd.R_types HO454.out BK456.out (by decide)) (fun _ hk => hk.2) (.slice Ao52 t449.length co52)) (fun _ hk => hk.2) (.slice Ao54 t452.length co54)) (fun _ h_ => h_.1))))) (below_size (bq1_ HB.out GE456.out))); have n5_ := Aside0.mk (blk_below (g := gb456) (o := .cells #[.slice Ao52 t449.length co52, .slice Ao54 t452.length co54] 25 (0, 0)) (by (with_reducible repeat (first | refine blk_drewN ?_ _ | refine blk_drew ?_ | refine blk_alloc ?_ _)); refine blk_put (cs := #[.slice Ao52 t449.length co52, .slice none 0 0]) ?_ 1 _ rfl; (with_reducible repeat (first | refine blk_drewN ?_ _ | refine blk_drew ?_ | refine blk_alloc ?_ _)); refine blk_put (cs := #[.slice none 0 0, .slice none 0 0]) ?_ 0 _ rfl; (with_reducible repeat (first | refine blk_drewN ?_ _ | refine blk_drew ?_ | refine blk_alloc ?_ _)); exact BK456.out) hb); have n6_ := Aside0.mk (below_step (bq1_ HB.out GE456.out) hb); clear HO_6; clear HO451; clear HO454; clear BK456; clear HB; have HO_6 := n0_; have HO451 := n1_; have HO454 := n2_; have HO459 := n3_; have HO462 := n4_; have BK456 := n5_; have HB := n6_; clear n0_ n1_ n2_ n3_ n4_ n5_ n6_; (try clear hb); (try clear hb2); (try clear hk); (try clear hi); (try clear ho0); (try clear ho1)) | ((with_reducible refine gate_dst (N := 14) rfl ?_); (try (refine gate_guard (by rfl) ?_; dsimp only)); refine box_event ?hg (N := 14) ?hd (cs := #[.slice none 0 0, .slice none 0 0]) (t := 25) ?hr ?_; (case hd => rfl); (case hg => rfl); (case hr => first | (go_simp; done) | (go_simp; rfl)); intro gb464 hg w56 hbox hb; have n0_ := Aside0.mk (Kd.V_below (Kd.V_elderB (mvV_ HO_6.out) gb464 (Nat.le_of_eq hg.symm)) hb); have n1_ := Aside0.mk (Kd.R_below (mvR_ HO451.out) hb); have n2_ := Aside0.mk (Kd.R_below (mvR_ HO454.out) hb); have n3_ := Aside0.mk (Kd.R_below (mvR_ HO459.out) hb); have n4_ := Aside0.mk (Kd.R_below (mvR_ HO462.out) hb); have n5_ := Aside0.mk (blk_below (g := gb456) (o := .cells #[.slice Ao52 t449.length co52, .slice Ao54 t452.length co54] 25 (0, 0)) (mvK_ BK456.out) hb); have n6_ := Aside0.mk (below_step (bq1_ HB.out GE456.out) hb); have n7_ := Aside0.mk (hbox); have n8_ := Aside0.mk ((by rw [hg]; exact (below_size (bq1_ HB.out GE456.out)) : w.heap.size ≤ gb464)); have n9_ := Aside0.mk ((by rw [hg]; exact (below_size (bq1_ HB.out GE456.out)) : w.heap.size ≤ gb464)); have n10_ := Aside0.mk ((by rw [hg]; exact Nat.ne_of_lt (blk_lt (g := gb456) (o := .cells #[.slice Ao52 t449.length co52, .slice Ao54 t452.length co54] 25 (0, 0)) (mvK_ BK456.out)) : gb456 ≠ gb464)); have n11_ := Aside0.mk ((by rw [hg]; exact Nat.ne_of_gt (blk_lt (g := gb456) (o := .cells #[.slice Ao52 t449.length co52, .slice Ao54 t452.length co54] 25 (0, 0)) (mvK_ BK456.out)) : gb464 ≠ gb456)); clear HO_6; clear HO451; clear HO454; clear HO459; clear HO462; clear BK456; clear HB; have HO_6 := n0_; have HO451 := n1_; have HO454 := n2_; have HO459 := n3_; have HO462 := n4_; have BK456 := n5_; have HB := n6_; have BK464 := n7_; have GW464 := n8_; have GE464 := n9_; have NB456_464 := n10_; have NB464_456 := n11_; clear n0_ n1_ n2_ n3_ n4_ n5_ n6_ n7_ n8_ n9_ n10_ n11_; clear hb hbox hg; obtain ⟨Ao57, co57, eo57⟩ := Kd.R_slice HO459.out; subst eo57; have hnb58 := NB464_456.out; have hnc58 := NB456_464.out; have hcz59_0 : w56.cell? ⟨gb464, 0, none⟩ = some (.slice none 0 0) := (blk_cell BK464.out 0).trans rfl; have hcz59_1 : w56.cell? ⟨gb464, 1, none⟩ = some (.slice none 0 0) := (blk_cell BK464.out 1).trans rfl; have hfz59_0 := blk_frozen BK464.out 0; have hfz59_1 := blk_frozen BK464.out 1; obtain ⟨Ao60, co60, eo60⟩ := Kd.R_slice HO462.out; subst eo60))
                      have n0_ : Aside0 (Kd.V k41 41 ((w56.setCell ⟨gb464, 0, none⟩ (.slice Ao57 t457.length co57)).setCell ⟨gb464, 1, none⟩ (.slice Ao60 t460.length co60)) w.heap.size (fun k_ => some k_ ≠ (.slice Ao52 t449.length co52 : Value).ownBlock ∧ some k_ ≠ (.slice Ao54 t452.length co54 : Value).ownBlock ∧ some k_ ≠ (.slice Ao57 t457.length co57 : Value).ownBlock ∧ some k_ ≠ (.slice Ao60 t460.length co60 : Value).ownBlock ∧ k_ ≠ gb456 ∧ k_ ≠ gb464) (.slice Ao49 x6_2.length co49) x6_2) := ⟨by (with_reducible repeat (first | apply Kd.V_alloc | apply Kd.V_drewN | apply Kd.V_drew)); exact Kd.V_mono (Kd.V_far (p := ⟨gb464, 1, none⟩) (Kd.V_far (p := ⟨gb464, 0, none⟩) (Kd.V_mono HO_6.out (fun k_ hk => (⟨hk, hk.2⟩ : _ ∧ k_ ≠ gb464))) (fun _ hk => hk.2) (.slice Ao57 t457.length co57)) (fun _ hk => hk.2) (.slice Ao60 t460.length co60)) (fun _ hk => ⟨hk.1.1.1.1.1.1.2, ⟨hk.1.1.1.1.1.2, ⟨hk.1.1.1.2, ⟨hk.1.1.2, ⟨hk.1.1.1.1.2, hk.1.2⟩⟩⟩⟩⟩)⟩
                      have n1_ : Aside0 (Kd.R (Kd.int .i64) 3 ((w56.setCell ⟨gb464, 0, none⟩ (.slice Ao57 t457.length co57)).setCell ⟨gb464, 1, none⟩ (.slice Ao60 t460.length co60)) w.heap.size (fun k_ => some k_ ≠ (.slice Ao54 t452.length co54 : Value).ownBlock ∧ some k_ ≠ (.slice Ao57 t457.length co57 : Value).ownBlock ∧ some k_ ≠ (.slice Ao60 t460.length co60 : Value).ownBlock) (.slice Ao52 t449.length co52) t449) := ⟨by (with_reducible repeat (first | apply Kd.R_alloc | apply Kd.R_drewN | apply Kd.R_drew)); exact Kd.R_mono (Kd.R_far (p := ⟨gb464, 1, none⟩) (Kd.R_far (p := ⟨gb464, 0, none⟩) (Kd.R_types HO451.out BK464.out (by decide)) (fun _ hk => hk.2) (.slice Ao57 t457.length co57)) (fun _ hk => hk.2) (.slice Ao60 t460.length co60)) (fun _ hk => ⟨hk.1.1.1, ⟨hk.1.1.2, hk.1.2⟩⟩)⟩
                      have n2_ : Aside0 (Kd.R (Kd.int .i64) 3 ((w56.setCell ⟨gb464, 0, none⟩ (.slice Ao57 t457.length co57)).setCell ⟨gb464, 1, none⟩ (.slice Ao60 t460.length co60)) w.heap.size (fun k_ => some k_ ≠ (.slice Ao52 t449.length co52 : Value).ownBlock ∧ some k_ ≠ (.slice Ao57 t457.length co57 : Value).ownBlock ∧ some k_ ≠ (.slice Ao60 t460.length co60 : Value).ownBlock) (.slice Ao54 t452.length co54) t452) := ⟨by (with_reducible repeat (first | apply Kd.R_alloc | apply Kd.R_drewN | apply Kd.R_drew)); exact Kd.R_mono (Kd.R_far (p := ⟨gb464, 1, none⟩) (Kd.R_far (p := ⟨gb464, 0, none⟩) (Kd.R_types HO454.out BK464.out (by decide)) (fun _ hk => hk.2) (.slice Ao57 t457.length co57)) (fun _ hk => hk.2) (.slice Ao60 t460.length co60)) (fun _ hk => ⟨hk.1.1.1, ⟨hk.1.1.2, hk.1.2⟩⟩)⟩
                      have n3_ : Aside0 (Kd.R (Kd.int .i64) 3 ((w56.setCell ⟨gb464, 0, none⟩ (.slice Ao57 t457.length co57)).setCell ⟨gb464, 1, none⟩ (.slice Ao60 t460.length co60)) w.heap.size (fun k_ => some k_ ≠ (.slice Ao52 t449.length co52 : Value).ownBlock ∧ some k_ ≠ (.slice Ao54 t452.length co54 : Value).ownBlock ∧ some k_ ≠ (.slice Ao60 t460.length co60 : Value).ownBlock) (.slice Ao57 t457.length co57) t457) := ⟨by (with_reducible repeat (first | apply Kd.R_alloc | apply Kd.R_drewN | apply Kd.R_drew)); exact Kd.R_mono (Kd.R_far (p := ⟨gb464, 1, none⟩) (Kd.R_far (p := ⟨gb464, 0, none⟩) (Kd.R_types HO459.out BK464.out (by decide)) (fun _ hk => hk.2) (.slice Ao57 t457.length co57)) (fun _ hk => hk.2) (.slice Ao60 t460.length co60)) (fun _ hk => ⟨hk.1.1.2, ⟨hk.1.2, hk.1.1.1⟩⟩)⟩
                      have n4_ : Aside0 (Kd.R (Kd.int .i64) 3 ((w56.setCell ⟨gb464, 0, none⟩ (.slice Ao57 t457.length co57)).setCell ⟨gb464, 1, none⟩ (.slice Ao60 t460.length co60)) w.heap.size (fun k_ => some k_ ≠ (.slice Ao52 t449.length co52 : Value).ownBlock ∧ some k_ ≠ (.slice Ao54 t452.length co54 : Value).ownBlock ∧ some k_ ≠ (.slice Ao57 t457.length co57 : Value).ownBlock) (.slice Ao60 t460.length co60) t460) := ⟨by (with_reducible repeat (first | apply Kd.R_alloc | apply Kd.R_drewN | apply Kd.R_drew)); exact Kd.R_mono (Kd.R_far (p := ⟨gb464, 1, none⟩) (Kd.R_far (p := ⟨gb464, 0, none⟩) (Kd.R_types HO462.out BK464.out (by decide)) (fun _ hk => hk.2) (.slice Ao57 t457.length co57)) (fun _ hk => hk.2) (.slice Ao60 t460.length co60)) (fun _ hk => ⟨hk.1.1.2, ⟨hk.1.2, hk.1.1.1⟩⟩)⟩
                      have n5_ : Aside0 (((w56.setCell ⟨gb464, 0, none⟩ (.slice Ao57 t457.length co57)).setCell ⟨gb464, 1, none⟩ (.slice Ao60 t460.length co60)).heap[gb456]? = some (.cells #[.slice Ao52 t449.length co52, .slice Ao54 t452.length co54] 25 (0, 0))) := ⟨by (with_reducible repeat (first | refine blk_drewN ?_ _ | refine blk_drew ?_ | refine blk_alloc ?_ _)); refine blk_far ?_ NB456_464.out _; (with_reducible repeat (first | refine blk_drewN ?_ _ | refine blk_drew ?_ | refine blk_alloc ?_ _)); refine blk_far ?_ NB456_464.out _; (with_reducible repeat (first | refine blk_drewN ?_ _ | refine blk_drew ?_ | refine blk_alloc ?_ _)); exact BK456.out⟩
                      have n6_ : Aside0 (((w56.setCell ⟨gb464, 0, none⟩ (.slice Ao57 t457.length co57)).setCell ⟨gb464, 1, none⟩ (.slice Ao60 t460.length co60)).heap[gb464]? = some (.cells #[.slice Ao57 t457.length co57, .slice Ao60 t460.length co60] 25 (0, 0))) := ⟨by (with_reducible repeat (first | refine blk_drewN ?_ _ | refine blk_drew ?_ | refine blk_alloc ?_ _)); refine blk_put (cs := #[.slice Ao57 t457.length co57, .slice none 0 0]) ?_ 1 _ rfl; (with_reducible repeat (first | refine blk_drewN ?_ _ | refine blk_drew ?_ | refine blk_alloc ?_ _)); refine blk_put (cs := #[.slice none 0 0, .slice none 0 0]) ?_ 0 _ rfl; (with_reducible repeat (first | refine blk_drewN ?_ _ | refine blk_drew ?_ | refine blk_alloc ?_ _)); exact BK464.out⟩
                      have n7_ : Aside0 (Below w.heap.size w ((w56.setCell ⟨gb464, 0, none⟩ (.slice Ao57 t457.length co57)).setCell ⟨gb464, 1, none⟩ (.slice Ao60 t460.length co60))) := ⟨by repeat (first | (with_reducible first | exact HB.out | apply below_alloc | apply pw_below_drewN | apply below_drew1 | refine below_set ?_ GE456.out | refine below_set ?_ GE464.out) | exact HB.out)⟩
                      (try clear HO_6)
                      (try clear HO451)
                      (try clear HO454)
                      (try clear HO459)
                      (try clear HO462)
                      (try clear BK456)
                      (try clear BK464)
                      (try clear HB)
                      generalize ((w56.setCell ⟨gb464, 0, none⟩ (.slice Ao57 t457.length co57)).setCell ⟨gb464, 1, none⟩ (.slice Ao60 t460.length co60)) = w61 at n0_ n1_ n2_ n3_ n4_ n5_ n6_ n7_ ⊢
                      have HO_6 := n0_
                      have HO451 := n1_
                      have HO454 := n2_
                      have HO459 := n3_
                      have HO462 := n4_
                      have BK456 := n5_
                      have BK464 := n6_
                      have HB := n7_
                      clear n0_ n1_ n2_ n3_ n4_ n5_ n6_ n7_
                      have n0_ := Aside0.mk (Kd.V_drew HO_6.out)
                      have n1_ := Aside0.mk (Kd.R_drew HO451.out)
                      have n2_ := Aside0.mk (Kd.R_drew HO454.out)
                      have n3_ := Aside0.mk (Kd.R_drew HO459.out)
                      have n4_ := Aside0.mk (Kd.R_drew HO462.out)
                      have n5_ := Aside0.mk (blk_drew BK456.out)
                      have n6_ := Aside0.mk (blk_drew BK464.out)
                      have n7_ := Aside0.mk (below_drew1 HB.out)
                      clear HO_6 HO451 HO454 HO459 HO462 BK456 BK464 HB
                      have HO_6 := n0_
                      have HO451 := n1_
                      have HO454 := n2_
                      have HO459 := n3_
                      have HO462 := n4_
                      have BK456 := n5_
                      have BK464 := n6_
                      have HB := n7_
                      clear n0_ n1_ n2_ n3_ n4_ n5_ n6_ n7_
                      have p465 : 0 ≤ (x11_3 : Int) := of_decide_eq_true (by first | (with_reducible assumption) | assumption)
                      have q465 : x11_3 < (l0.length : Int) := of_decide_eq_true (by first | (with_reducible assumption) | assumption)
                      obtain ⟨ad465, e465, hx465_0⟩ := Kd.at_int HR0.out x11_3 p465 q465
                      have hw465_0 := hx465_0
                      cases e465
                      replace hx465_0 := (HB.out.cell (World.block_lt_of_cell? w _ hx465_0)).trans hx465_0
                      replace p465 := eq_true p465
                      replace q465 := eq_true q465
                      have p470 : 0 ≤ ((ji44) : Int) := of_decide_eq_true (by first | (with_reducible assumption) | assumption)
                      have q470 : (ji44) < (l0.length : Int) := of_decide_eq_true (by first | (with_reducible assumption) | assumption)
                      obtain ⟨ad470, e470, hx470_0⟩ := Kd.at_int HR0.out (ji44) p470 q470
                      have hw470_0 := hx470_0
                      obtain rfl : ad465 = ad470 := (by injection e470)
                      replace hx470_0 := (HB.out.cell (World.block_lt_of_cell? w _ hx470_0)).trans hx470_0
                      replace p470 := eq_true p470
                      replace q470 := eq_true q470
                      refine start_ (n := 35) (S := fun w' => w'.cell? ⟨gb456, 0, none⟩ = some (.slice Ao52 t449.length co52) ∧ w'.cell? ⟨gb456, 1, none⟩ = some (.slice Ao54 t452.length co54) ∧ w'.cell? ⟨gb464, 0, none⟩ = some (.slice Ao57 t457.length co57) ∧ w'.cell? ⟨gb464, 1, none⟩ = some (.slice Ao60 t460.length co60) ∧ w'.cell? (ad465.add (x11_3).toNat) = some (.int .i64 (rd l0 x11_3)) ∧ w'.cell? (ad465.add ((ji44)).toNat) = some (.int .i64 (rd l0 (ji44)))) (ds := []) L7_0 (by kernel_rfl) rfl rfl ⟨(blk_cell BK456.out 0).trans rfl, (blk_cell BK456.out 1).trans rfl, (blk_cell BK464.out 0).trans rfl, (blk_cell BK464.out 1).trans rfl, ((HB.out.cell (World.block_lt_of_cell? w _ hw465_0)).trans hw465_0), ((HB.out.cell (World.block_lt_of_cell? w _ hw470_0)).trans hw470_0)⟩ (fun hHeld => ?_); refine with_tabW fullerlaw17_ChainMany.tab21 fullerlaw17_ChainMany.bits21 (fun HT_ HW_ => ?_)
                      generalize w61.drew = w62 at HO_6 HO451 HO454 HO459 HO462 BK456 BK464 HB hx465_0 hx470_0 hHeld ⊢
                      refine pure_ (i := 0) (N := some 104) (v := ?_) (a' := ?_) L7_1 rfl rfl (any_of HT_.out (by kernel_rfl)) (fun _ _ _ h => h) (Or.inl ⟨by rfl, ?_⟩) ?_ ?_
                      rotate_left
                      ·intro w'
                       go_simp
                       with_reducible rfl
                      rotate_left
                      ·simp only [Act.put, sA_, sB_, sC_, i64_w, i32_w]
                       rfl
                      refine pure_ (i := 1) (N := some 105) (v := ?_) (a' := ?_) L7_2 rfl rfl (any_of HT_.out (by kernel_rfl)) (fun _ _ _ h => h) (Or.inl ⟨by rfl, ?_⟩) ?_ ?_
                      rotate_left
                      ·intro w'
                       go_simp
                       with_reducible rfl
                      rotate_left
                      ·simp only [Act.put, sA_, sB_, sC_, i64_w, i32_w]
                       rfl
                      refine pure_ (i := 2) (N := some 106) (v := ?_) (a' := ?_) L7_3 rfl rfl (any_of HT_.out (by kernel_rfl)) (fun _ _ _ h => h) (Or.inl ⟨by rfl, ?_⟩) ?_ ?_
                      rotate_left
                      ·intro w'
                       go_simp
                       with_reducible rfl
                      rotate_left
                      ·simp only [Act.put, sA_, sB_, sC_, i64_w, i32_w]
                       rfl
                      refine pure_ (i := 3) (N := some 107) (v := ?_) (a' := ?_) L7_4 rfl rfl (any_of HT_.out (by kernel_rfl)) (fun _ _ _ h => h) (Or.inl ⟨by rfl, ?_⟩) ?_ ?_
                      rotate_left
                      ·intro w'
                       go_simp
                       with_reducible rfl
                      rotate_left
                      ·simp only [Act.put, sA_, sB_, sC_, i64_w, i32_w]
                       rfl
                      refine pure_ (i := 5) (N := some 109) (v := ?_) (a' := ?_) L7_5 rfl rfl (any_of HT_.out (by kernel_rfl)) (fun _ _ _ h => h) (Or.inl ⟨by rfl, ?_⟩) ?_ ?_
                      rotate_left
                      ·intro w'
                       go_simp
                       with_reducible rfl
                      rotate_left
                      ·simp only [Act.put, sA_, sB_, sC_, i64_w, i32_w]
                       rfl
                      refine pure_ (i := 6) (N := some 110) (v := ?_) (a' := ?_) L7_6 rfl rfl (any_of HT_.out (by kernel_rfl)) (fun _ _ _ h => h) (Or.inl ⟨by rfl, ?_⟩) ?_ ?_
                      rotate_left
                      ·intro w'
                       go_simp
                       with_reducible rfl
                      rotate_left
                      ·simp only [Act.put, sA_, sB_, sC_, i64_w, i32_w]
                       rfl
                      refine pure_ (i := 7) (N := some 111) (v := ?_) (a' := ?_) L7_7 rfl rfl (any_of HT_.out (by kernel_rfl)) (fun _ _ _ h => h) (Or.inl ⟨by rfl, ?_⟩) ?_ ?_
                      rotate_left
                      ·intro w'
                       go_simp
                       with_reducible rfl
                      rotate_left
                      ·simp only [Act.put, sA_, sB_, sC_, i64_w, i32_w]
                       rfl
                      refine take_ (i := 4) (N := some 108) (v := ?_) (a' := ?_) L7_8 rfl rfl (take_ofW HT_.out HW_.out (by kernel_rfl)) (fun _ _ _ h => h) (Or.inl ⟨by rfl, ?_⟩) hHeld ?_ ?_
                      rotate_left
                      ·rintro w' ⟨s0, s1, s2, s3, s4, s5⟩
                       go_simp
                       with_reducible rfl
                      rotate_left
                      ·simp only [Act.put, sA_, sB_, sC_, i64_w, i32_w]
                       rfl
                      refine take_ (i := 8) (N := some 112) (v := ?_) (a' := ?_) L7_9 rfl rfl (take_ofW HT_.out HW_.out (by kernel_rfl)) (fun _ _ _ h => h) (Or.inl ⟨by rfl, ?_⟩) hHeld ?_ ?_
                      rotate_left
                      ·rintro w' ⟨s0, s1, s2, s3, s4, s5⟩
                       go_simp
                       with_reducible rfl
                      rotate_left
                      ·simp only [Act.put, sA_, sB_, sC_, i64_w, i32_w]
                       rfl
                      refine one_ (i := 9) (N := some 113) L7_10 rfl rfl (one_of HT_.out (by kernel_rfl)) (by decide) (fun K hK => ?_)
                      refine Kd.R_lit_step (Kd.int .i64) _ 3 ?hg (N := 113) ?hd (xs := ([rd l0 x11_3] : List Int)) (inner := [.int .i64 (rd l0 x11_3)]) (ok := fun _ => True) (okp := fun _ => True) ?hr ?hp (fun _ hk => hk) trivial (Below.refl _ _) (Nat.le_refl _) (by simp) ?_; (case hd => rfl); (case hg => rfl); (case hr => first | (go_simp; done) | (go_simp; rfl)); (case hp => exact (Reps.one (show Kd.M (Kd.int .i64) _ _ _ (rd l0 x11_3) [.int .i64 (rd l0 x11_3)] from rfl) (Reps.none _ _)))
                      intro v467 w63 ho64 hb hg_ hnew_
                      clear hg_ hnew_
                      (first | rw [← Ny466.out] at ho64 | (simp only [Int.reduceToNat] at ho64; rw [← Ny466.out] at ho64))
                      have n0_ := Aside0.mk (Kd.V_elder' (mvV_ HO_6.out) (Kd.R_base ho64) hb)
                      have n1_ := Aside0.mk (Kd.R_elder' (mvR_ HO451.out) (Kd.R_base ho64) hb)
                      have n2_ := Aside0.mk (Kd.R_elder' (mvR_ HO454.out) (Kd.R_base ho64) hb)
                      have n3_ := Aside0.mk (Kd.R_elder' (mvR_ HO459.out) (Kd.R_base ho64) hb)
                      have n4_ := Aside0.mk (Kd.R_elder' (mvR_ HO462.out) (Kd.R_base ho64) hb)
                      have n5_ := Aside0.mk (Kd.R_lower (Kd.R_new' (Kd.R_new' (Kd.R_new' (Kd.R_new' ho64 (Kd.R_lt (mvR_ HO451.out))) (Kd.R_lt (mvR_ HO454.out))) (Kd.R_lt (mvR_ HO459.out))) (Kd.R_lt (mvR_ HO462.out))) (below_size (bq2_ HB.out GE456.out GE464.out)))
                      have n6_ := Aside0.mk (blk_below (g := gb456) (o := .cells #[.slice Ao52 t449.length co52, .slice Ao54 t452.length co54] 25 (0, 0)) (mvK_ BK456.out) hb)
                      have n7_ := Aside0.mk (blk_below (g := gb464) (o := .cells #[.slice Ao57 t457.length co57, .slice Ao60 t460.length co60] 25 (0, 0)) (mvK_ BK464.out) hb)
                      have n8_ := Aside0.mk (below_step (bq2_ HB.out GE456.out GE464.out) hb)
                      clear HO_6 HO451 HO454 HO459 HO462 BK456 BK464 HB
                      have HO_6 := n0_
                      have HO451 := n1_
                      have HO454 := n2_
                      have HO459 := n3_
                      have HO462 := n4_
                      have HO468 := n5_
                      have BK456 := n6_
                      have BK464 := n7_
                      have HB := n8_
                      clear n0_ n1_ n2_ n3_ n4_ n5_ n6_ n7_ n8_ hb ho64
                      obtain ⟨Ao65, co65, eo65⟩ := Kd.R_slice HO468.out
                      (first | subst eo65 | (injection eo65 with f1_ f2_ f3_; have f4_ := f1_.symm; have f5_ := f3_.symm; clear f1_ f2_ f3_; subst f4_; subst f5_))
                      refine hK.out _ _ ⟨(blk_cell BK456.out 0).trans rfl, (blk_cell BK456.out 1).trans rfl, (blk_cell BK464.out 0).trans rfl, (blk_cell BK464.out 1).trans rfl, ((HB.out.cell (World.block_lt_of_cell? w _ hw465_0)).trans hw465_0), ((HB.out.cell (World.block_lt_of_cell? w _ hw470_0)).trans hw470_0)⟩ (fun hHeld => ?_)
                      clear hK K
                      refine norm_ (a' := ?_) ?_ ?_
                      rotate_left
                      ·show Act.put _ (some 113) _ = _
                       simp only [Act.put, sA_, sB_, sC_, i64_w, i32_w]
                       rfl
                      refine one_ (i := 10) (N := some 114) L7_11 rfl rfl (one_of HT_.out (by kernel_rfl)) (by decide) (fun K hK => ?_)
                      refine goes_ Try.func23 (by kernel_rfl) rfl #[.slice Ao54 t452.length co54, .slice Ao65 y466.length co65] (by rfl) rfl rfl (by (try simp only [List.map_toArray, List.map_cons, List.map_nil]); first | done | rfl | (simp only [List.length_drop, List.length_take]; rfl)) ?_
                      with_reducible refine (fullerref02_Same.calls kj30 _ _ t452 _ _ y466 true _ ?side1 ?side2 ?side3 ?side4 A40.out).mono ?_
                      (case side1 => repeat (first | exact (Kd.R_reads' HO454.out).2.2 | (with_reducible refine Kd.C_alloc ?_ _) | (with_reducible refine Kd.C_drewN ?_ _) | (with_reducible refine Kd.C_drew ?_)))
                      (case side2 => exact (Kd.R_reads' HO454.out).2.1)
                      (case side3 => repeat (first | exact (Kd.R_reads' HO468.out).2.2 | (with_reducible refine Kd.C_alloc ?_ _) | (with_reducible refine Kd.C_drewN ?_ _) | (with_reducible refine Kd.C_drew ?_)))
                      (case side4 => exact (Kd.R_reads' HO468.out).2.1)
                      rintro e w' ⟨rfl, ⟨nd, rfl⟩⟩
                      refine ⟨_, rfl, ?_⟩
                      refine hK.out _ _ ⟨(blk_cell BK456.out 0).trans rfl, (blk_cell BK456.out 1).trans rfl, (blk_cell BK464.out 0).trans rfl, (blk_cell BK464.out 1).trans rfl, ((HB.out.cell (World.block_lt_of_cell? w _ hw465_0)).trans hw465_0), ((HB.out.cell (World.block_lt_of_cell? w _ hw470_0)).trans hw470_0)⟩ (fun hHeld => ?_)
                      clear hK K
                      refine norm_ (a' := ?_) ?_ ?_
                      rotate_left
                      ·show Act.put _ (some 114) _ = _
                       simp only [Act.put, sA_, sB_, sC_, i64_w, i32_w]
                       rfl
                      refine pure_ (i := 11) (N := some 115) (v := ?_) (a' := ?_) L7_12 rfl rfl (any_of HT_.out (by kernel_rfl)) (fun _ _ _ h => h) (Or.inl ⟨by rfl, ?_⟩) ?_ ?_
                      rotate_left
                      ·intro w'
                       go_simp
                       with_reducible rfl
                      rotate_left
                      ·simp only [Act.put, sA_, sB_, sC_, i64_w, i32_w]
                       rfl
                      refine pure_ (i := 12) (N := some 116) (v := ?_) (a' := ?_) L7_13 rfl rfl (any_of HT_.out (by kernel_rfl)) (fun _ _ _ h => h) (Or.inl ⟨by rfl, ?_⟩) ?_ ?_
                      rotate_left
                      ·intro w'
                       go_simp
                       with_reducible rfl
                      rotate_left
                      ·simp only [Act.put, sA_, sB_, sC_, i64_w, i32_w]
                       rfl
                      refine pure_ (i := 13) (N := some 117) (v := ?_) (a' := ?_) L7_14 rfl rfl (any_of HT_.out (by kernel_rfl)) (fun _ _ _ h => h) (Or.inl ⟨by rfl, ?_⟩) ?_ ?_
                      rotate_left
                      ·intro w'
                       go_simp
                       with_reducible rfl
                      rotate_left
                      ·simp only [Act.put, sA_, sB_, sC_, i64_w, i32_w]
                       rfl
                      refine pure_ (i := 14) (N := some 118) (v := ?_) (a' := ?_) L7_15 rfl rfl (any_of HT_.out (by kernel_rfl)) (fun _ _ _ h => h) (Or.inl ⟨by rfl, ?_⟩) ?_ ?_
                      rotate_left
                      ·intro w'
                       go_simp
                       with_reducible rfl
                      rotate_left
                      ·simp only [Act.put, sA_, sB_, sC_, i64_w, i32_w]
                       rfl
                      refine pure_ (i := 15) (N := some 119) (v := ?_) (a' := ?_) L7_16 rfl rfl (any_of HT_.out (by kernel_rfl)) (fun _ _ _ h => h) (Or.inl ⟨by rfl, ?_⟩) ?_ ?_
                      rotate_left
                      ·intro w'
                       go_simp
                       with_reducible rfl
                      rotate_left
                      ·simp only [Act.put, sA_, sB_, sC_, i64_w, i32_w]
                       rfl
                      refine pure_ (i := 16) (N := some 120) (v := ?_) (a' := ?_) L7_17 rfl rfl (any_of HT_.out (by kernel_rfl)) (fun _ _ _ h => h) (Or.inl ⟨by rfl, ?_⟩) ?_ ?_
                      rotate_left
                      ·intro w'
                       go_simp
                       with_reducible rfl
                      rotate_left
                      ·simp only [Act.put, sA_, sB_, sC_, i64_w, i32_w]
                       rfl
                      refine pure_ (i := 17) (N := some 121) (v := ?_) (a' := ?_) L7_18 rfl rfl (any_of HT_.out (by kernel_rfl)) (fun _ _ _ h => h) (Or.inl ⟨by rfl, ?_⟩) ?_ ?_
                      rotate_left
                      ·intro w'
                       go_simp
                       with_reducible rfl
                      rotate_left
                      ·simp only [Act.put, sA_, sB_, sC_, i64_w, i32_w]
                       rfl
                      refine pure_ (i := 18) (N := some 122) (v := ?_) (a' := ?_) L7_19 rfl rfl (any_of HT_.out (by kernel_rfl)) (fun _ _ _ h => h) (Or.inl ⟨by rfl, ?_⟩) ?_ ?_
                      rotate_left
                      ·intro w'
                       go_simp
                       with_reducible rfl
                      rotate_left
                      ·simp only [Act.put, sA_, sB_, sC_, i64_w, i32_w]
                       rfl
                      refine pure_ (i := 19) (N := some 123) (v := ?_) (a' := ?_) L7_20 rfl rfl (any_of HT_.out (by kernel_rfl)) (fun _ _ _ h => h) (Or.inl ⟨by rfl, ?_⟩) ?_ ?_
                      rotate_left
                      ·intro w'
                       go_simp
                       with_reducible rfl
                      rotate_left
                      ·simp only [Act.put, sA_, sB_, sC_, i64_w, i32_w]
                       rfl
                      refine pure_ (i := 20) (N := some 124) (v := ?_) (a' := ?_) L7_21 rfl rfl (any_of HT_.out (by kernel_rfl)) (fun _ _ _ h => h) (Or.inl ⟨by rfl, ?_⟩) ?_ ?_
                      rotate_left
                      ·intro w'
                       go_simp
                       with_reducible rfl
                      rotate_left
                      ·simp only [Act.put, sA_, sB_, sC_, i64_w, i32_w]
                       rfl
                      refine pure_ (i := 21) (N := some 125) (v := ?_) (a' := ?_) L7_22 rfl rfl (any_of HT_.out (by kernel_rfl)) (fun _ _ _ h => h) (Or.inl ⟨by rfl, ?_⟩) ?_ ?_
                      rotate_left
                      ·intro w'
                       go_simp
                       with_reducible rfl
                      rotate_left
                      ·simp only [Act.put, sA_, sB_, sC_, i64_w, i32_w]
                       rfl
                      refine pure_ (i := 22) (N := some 126) (v := ?_) (a' := ?_) L7_23 rfl rfl (any_of HT_.out (by kernel_rfl)) (fun _ _ _ h => h) (Or.inl ⟨by rfl, ?_⟩) ?_ ?_
                      rotate_left
                      ·intro w'
                       go_simp
                       with_reducible rfl
                      rotate_left
                      ·simp only [Act.put, sA_, sB_, sC_, i64_w, i32_w]
                       rfl
                      refine pure_ (i := 23) (N := some 127) (v := ?_) (a' := ?_) L7_24 rfl rfl (any_of HT_.out (by kernel_rfl)) (fun _ _ _ h => h) (Or.inl ⟨by rfl, ?_⟩) ?_ ?_
                      rotate_left
                      ·intro w'
                       go_simp
                       with_reducible rfl
                      rotate_left
                      ·simp only [Act.put, sA_, sB_, sC_, i64_w, i32_w]
                       rfl
                      refine pure_ (i := 25) (N := some 129) (v := ?_) (a' := ?_) L7_25 rfl rfl (any_of HT_.out (by kernel_rfl)) (fun _ _ _ h => h) (Or.inl ⟨by rfl, ?_⟩) ?_ ?_
                      rotate_left
                      ·intro w'
                       go_simp
                       with_reducible rfl
                      rotate_left
                      ·simp only [Act.put, sA_, sB_, sC_, i64_w, i32_w]
                       rfl
                      refine pure_ (i := 26) (N := some 130) (v := ?_) (a' := ?_) L7_26 rfl rfl (any_of HT_.out (by kernel_rfl)) (fun _ _ _ h => h) (Or.inl ⟨by rfl, ?_⟩) ?_ ?_
                      rotate_left
                      ·intro w'
                       go_simp
                       with_reducible rfl
                      rotate_left
                      ·simp only [Act.put, sA_, sB_, sC_, i64_w, i32_w]
                       rfl
                      refine pure_ (i := 27) (N := some 131) (v := ?_) (a' := ?_) L7_27 rfl rfl (any_of HT_.out (by kernel_rfl)) (fun _ _ _ h => h) (Or.inl ⟨by rfl, ?_⟩) ?_ ?_
                      rotate_left
                      ·intro w'
                       go_simp
                       with_reducible rfl
                      rotate_left
                      ·simp only [Act.put, sA_, sB_, sC_, i64_w, i32_w]
                       rfl
                      refine pure_ (i := 28) (N := some 132) (v := ?_) (a' := ?_) L7_28 rfl rfl (any_of HT_.out (by kernel_rfl)) (fun _ _ _ h => h) (Or.inl ⟨by rfl, ?_⟩) ?_ ?_
                      rotate_left
                      ·intro w'
                       go_simp
                       with_reducible rfl
                      rotate_left
                      ·simp only [Act.put, sA_, sB_, sC_, i64_w, i32_w]
                       rfl
                      refine take_ (i := 24) (N := some 128) (v := ?_) (a' := ?_) L7_29 rfl rfl (take_ofW HT_.out HW_.out (by kernel_rfl)) (fun _ _ _ h => h) (Or.inl ⟨by rfl, ?_⟩) hHeld ?_ ?_
                      rotate_left
                      ·rintro w' ⟨s0, s1, s2, s3, s4, s5⟩
                       go_simp
                       with_reducible rfl
                      rotate_left
                      ·simp only [Act.put, sA_, sB_, sC_, i64_w, i32_w]
                       rfl
                      refine take_ (i := 29) (N := some 133) (v := ?_) (a' := ?_) L7_30 rfl rfl (take_ofW HT_.out HW_.out (by kernel_rfl)) (fun _ _ _ h => h) (Or.inl ⟨by rfl, ?_⟩) hHeld ?_ ?_
                      rotate_left
                      ·rintro w' ⟨s0, s1, s2, s3, s4, s5⟩
                       go_simp
                       with_reducible rfl
                      rotate_left
                      ·simp only [Act.put, sA_, sB_, sC_, i64_w, i32_w]
                       rfl
                      refine one_ (i := 30) (N := some 134) L7_31 rfl rfl (one_of HT_.out (by kernel_rfl)) (by decide) (fun K hK => ?_)
                      refine Kd.R_lit_step (Kd.int .i64) _ 3 ?hg (N := 134) ?hd (xs := ([rd l0 (ji44)] : List Int)) (inner := [.int .i64 (rd l0 (ji44))]) (ok := fun _ => True) (okp := fun _ => True) ?hr ?hp (fun _ hk => hk) trivial (Below.refl _ _) (Nat.le_refl _) (by simp) ?_; (case hd => rfl); (case hg => rfl); (case hr => first | (go_simp; done) | (go_simp; rfl)); (case hp => exact (Reps.one (show Kd.M (Kd.int .i64) _ _ _ (rd l0 (ji44)) [.int .i64 (rd l0 (ji44))] from rfl) (Reps.none _ _)))
                      intro v472 w66 ho67 hb hg_ hnew_
                      clear hg_ hnew_
                      (first | rw [← Ny471.out] at ho67 | (simp only [Int.reduceToNat] at ho67; rw [← Ny471.out] at ho67))
                      have n0_ := Aside0.mk (Kd.V_elder' (mvV_ HO_6.out) (Kd.R_base ho67) hb)
                      have n1_ := Aside0.mk (Kd.R_elder' (mvR_ HO451.out) (Kd.R_base ho67) hb)
                      have n2_ := Aside0.mk (Kd.R_elder' (mvR_ HO454.out) (Kd.R_base ho67) hb)
                      have n3_ := Aside0.mk (Kd.R_elder' (mvR_ HO459.out) (Kd.R_base ho67) hb)
                      have n4_ := Aside0.mk (Kd.R_elder' (mvR_ HO462.out) (Kd.R_base ho67) hb)
                      have n5_ := Aside0.mk (Kd.R_elder' (mvR_ HO468.out) (Kd.R_base ho67) hb)
                      have n6_ := Aside0.mk (Kd.R_lower (Kd.R_new' (Kd.R_new' (Kd.R_new' (Kd.R_new' (Kd.R_new' ho67 (Kd.R_lt (mvR_ HO451.out))) (Kd.R_lt (mvR_ HO454.out))) (Kd.R_lt (mvR_ HO459.out))) (Kd.R_lt (mvR_ HO462.out))) (Kd.R_lt (mvR_ HO468.out))) (below_size (bq2_ HB.out GE456.out GE464.out)))
                      have n7_ := Aside0.mk (blk_below (g := gb456) (o := .cells #[.slice Ao52 t449.length co52, .slice Ao54 t452.length co54] 25 (0, 0)) (mvK_ BK456.out) hb)
                      have n8_ := Aside0.mk (blk_below (g := gb464) (o := .cells #[.slice Ao57 t457.length co57, .slice Ao60 t460.length co60] 25 (0, 0)) (mvK_ BK464.out) hb)
                      have n9_ := Aside0.mk (below_step (bq2_ HB.out GE456.out GE464.out) hb)
                      clear HO_6 HO451 HO454 HO459 HO462 HO468 BK456 BK464 HB
                      have HO_6 := n0_
                      have HO451 := n1_
                      have HO454 := n2_
                      have HO459 := n3_
                      have HO462 := n4_
                      have HO468 := n5_
                      have HO473 := n6_
                      have BK456 := n7_
                      have BK464 := n8_
                      have HB := n9_
                      clear n0_ n1_ n2_ n3_ n4_ n5_ n6_ n7_ n8_ n9_ hb ho67
                      obtain ⟨Ao68, co68, eo68⟩ := Kd.R_slice HO473.out
                      (first | subst eo68 | (injection eo68 with f1_ f2_ f3_; have f4_ := f1_.symm; have f5_ := f3_.symm; clear f1_ f2_ f3_; subst f4_; subst f5_))
                      refine hK.out _ _ ⟨(blk_cell BK456.out 0).trans rfl, (blk_cell BK456.out 1).trans rfl, (blk_cell BK464.out 0).trans rfl, (blk_cell BK464.out 1).trans rfl, ((HB.out.cell (World.block_lt_of_cell? w _ hw465_0)).trans hw465_0), ((HB.out.cell (World.block_lt_of_cell? w _ hw470_0)).trans hw470_0)⟩ (fun hHeld => ?_)
                      clear hK K
                      refine norm_ (a' := ?_) ?_ ?_
                      rotate_left
                      ·show Act.put _ (some 134) _ = _
                       simp only [Act.put, sA_, sB_, sC_, i64_w, i32_w]
                       rfl
                      refine one_ (i := 31) (N := some 135) L7_32 rfl rfl (one_of HT_.out (by kernel_rfl)) (by decide) (fun K hK => ?_)
                      refine goes_ Try.func23 (by kernel_rfl) rfl #[.slice Ao60 t460.length co60, .slice Ao68 y471.length co68] (by rfl) rfl rfl (by (try simp only [List.map_toArray, List.map_cons, List.map_nil]); first | done | rfl | (simp only [List.length_drop, List.length_take]; rfl)) ?_
                      with_reducible refine (fullerref02_Same.calls kj30 _ _ t460 _ _ y471 true _ ?side1 ?side2 ?side3 ?side4 A47.out).mono ?_
                      (case side1 => repeat (first | exact (Kd.R_reads' HO462.out).2.2 | (with_reducible refine Kd.C_alloc ?_ _) | (with_reducible refine Kd.C_drewN ?_ _) | (with_reducible refine Kd.C_drew ?_)))
                      (case side2 => exact (Kd.R_reads' HO462.out).2.1)
                      (case side3 => repeat (first | exact (Kd.R_reads' HO473.out).2.2 | (with_reducible refine Kd.C_alloc ?_ _) | (with_reducible refine Kd.C_drewN ?_ _) | (with_reducible refine Kd.C_drew ?_)))
                      (case side4 => exact (Kd.R_reads' HO473.out).2.1)
                      rintro e w' ⟨rfl, ⟨nd, rfl⟩⟩
                      refine ⟨_, rfl, ?_⟩
                      refine hK.out _ _ ⟨(blk_cell BK456.out 0).trans rfl, (blk_cell BK456.out 1).trans rfl, (blk_cell BK464.out 0).trans rfl, (blk_cell BK464.out 1).trans rfl, ((HB.out.cell (World.block_lt_of_cell? w _ hw465_0)).trans hw465_0), ((HB.out.cell (World.block_lt_of_cell? w _ hw470_0)).trans hw470_0)⟩ (fun hHeld => ?_)
                      clear hK K
                      refine norm_ (a' := ?_) ?_ ?_
                      rotate_left
                      ·show Act.put _ (some 135) _ = _
                       simp only [Act.put, sA_, sB_, sC_, i64_w, i32_w]
                       rfl
                      refine pure_ (i := 32) (N := some 136) (v := ?_) (a' := ?_) L7_33 rfl rfl (any_of HT_.out (by kernel_rfl)) (fun _ _ _ h => h) (Or.inl ⟨by rfl, ?_⟩) ?_ ?_
                      rotate_left
                      ·intro w'
                       go_simp
                       with_reducible rfl
                      rotate_left
                      ·simp only [Act.put, sA_, sB_, sC_, i64_w, i32_w]
                       rfl
                      refine pure_ (i := 33) (N := some 137) (v := ?_) (a' := ?_) L7_34 rfl rfl (any_of HT_.out (by kernel_rfl)) (fun _ _ _ h => h) (Or.inl ⟨by rfl, ?_⟩) ?_ ?_
                      rotate_left
                      ·intro w'
                       go_simp
                       with_reducible rfl
                      rotate_left
                      ·simp only [Act.put, sA_, sB_, sC_, i64_w, i32_w]
                       rfl
                      refine pure_ (i := 34) (N := some 138) (v := ?_) (a' := ?_) L7_35 rfl rfl (any_of HT_.out (by kernel_rfl)) (fun _ _ _ h => h) (Or.inl ⟨by rfl, ?_⟩) ?_ ?_
                      rotate_left
                      ·intro w'
                       go_simp
                       with_reducible rfl
                      rotate_left
                      ·simp only [Act.put, sA_, sB_, sC_, i64_w, i32_w]
                       rfl
                      refine done_ (done_of HT_.out (by kernel_rfl)) ?_
                      try go_wp2
                      go_roundg kj30
                      case measure => have := HJ3.out; have := HK2.out; have := HK3.out; have := HJ30.out; omega
                      case rel => exact ⟨(wrap64 ((wrap64 (x7_3 + 1)) + (wrap64 (rd l1 x11_3)))), (wrap64 (x11_3 + 1)), (by first | rfl | (simp; done) | (simp [*]; done)), (by first | rfl | (simp; done) | (simp [*]; done)), H', ⟨by have := HJ3.out; have := HK2.out; have := HK3.out; have := HJ30.out; omega⟩, ⟨by (with_reducible repeat (first | apply Kd.V_alloc | apply Kd.V_drewN | apply Kd.V_drew)); exact Kd.V_mono HO_6.out (fun _ hk => trivial)⟩, ⟨by repeat (first | (with_reducible first | exact HB.out | apply below_alloc | apply pw_below_drewN | apply below_drew1 | refine below_set ?_ GE456.out | refine below_set ?_ GE464.out) | exact HB.out)⟩⟩
                     ·replace c48 := Bool.eq_false_iff.mpr c48
                      subst c48
                      have H1 : (some false) = some r := by rw [if_neg (show ¬ (false = true) by decide)] at H; exact H
                      clear H
                      have H := H1
                      clear H1
                      obtain rfl := Option.some.inj H
                      have p448 : 0 ≤ (x11_3 : Int) := of_decide_eq_true (by first | (with_reducible assumption) | assumption)
                      have q448 : x11_3 < (l1.length : Int) := of_decide_eq_true (by first | (with_reducible assumption) | assumption)
                      obtain ⟨ad448, e448, hx448_0⟩ := Kd.at_int HR1.out x11_3 p448 q448
                      cases e448
                      replace hx448_0 := (HB.out.cell (World.block_lt_of_cell? w _ hx448_0)).trans hx448_0
                      replace p448 := eq_true p448
                      replace q448 := eq_true q448
                      obtain ⟨Ao69, co69, eo69⟩ := Kd.V_slice HO_6.out
                      subst eo69
                      try go_wp2_with (first | ((with_reducible refine gate_callee (f := 11) rfl ?_); refine goesL_ (some 94) rfl rfl Try.func11 (by kernel_rfl) rfl #[.slice Ao69 x6_2.length co69, .int .i64 (wrap64 ((wrap64 (x7_3 + 1)) + (wrap64 (rd l1 x11_3))))] rfl (by (try simp only [List.map_toArray, List.map_cons, List.map_nil]); first | done | rfl | (simp only [List.length_drop, List.length_take]; rfl)) ?_; (with_reducible refine (chain_Read.calls kj30 _ _ x6_2 (wrap64 ((wrap64 (x7_3 + 1)) + (wrap64 (rd l1 x11_3)))) t449 t452 true _ ?side1 ?side2 A36.out).mono ?_); (case side1 => repeat (first | exact (Kd.V_reads' HO_6.out).2.2 | (with_reducible refine Kd.C_alloc ?_ _) | (with_reducible refine Kd.C_drewN ?_ _) | (with_reducible refine Kd.C_drew ?_))); (case side2 => exact (Kd.V_reads' HO_6.out).2.1); rintro e w70 ⟨v450, v453, rfl, ho0, ho1, hb⟩; refine ⟨_, rfl, ?_⟩; have n0_ := Aside0.mk (Kd.V_mono (Kd.V_told (Kd.V_told (Kd.V_old (mvV_ HO_6.out) hb) (Kd.R_base ho0)) (Kd.R_base ho1)) (fun _ h_ => h_.1)); have n1_ := Aside0.mk (Kd.R_lower ho0 (below_size (bq0_ HB.out))); have n2_ := Aside0.mk (Kd.R_lower ho1 (below_size (bq0_ HB.out))); have n3_ := Aside0.mk (below_step (bq0_ HB.out) hb); clear HO_6; clear HB; have HO_6 := n0_; have HO451 := n1_; have HO454 := n2_; have HB := n3_; clear n0_ n1_ n2_ n3_; (try clear hb); (try clear hb2); (try clear hk); (try clear hi); (try clear ho0); (try clear ho1)) | ((with_reducible refine gate_dst (N := 12) rfl ?_); (try (refine gate_guard (by rfl) ?_; dsimp only)); refine box_event ?hg (N := 12) ?hd (cs := #[.slice none 0 0, .slice none 0 0]) (t := 25) ?hr ?_; (case hd => rfl); (case hg => rfl); (case hr => first | (go_simp; done) | (go_simp; rfl)); intro gb456 hg w71 hbox hb; have n0_ := Aside0.mk (Kd.V_below (Kd.V_elderB (mvV_ HO_6.out) gb456 (Nat.le_of_eq hg.symm)) hb); have n1_ := Aside0.mk (Kd.R_below (mvR_ HO451.out) hb); have n2_ := Aside0.mk (Kd.R_below (mvR_ HO454.out) hb); have n3_ := Aside0.mk (below_step (bq0_ HB.out) hb); have n4_ := Aside0.mk (hbox); have n5_ := Aside0.mk ((by rw [hg]; exact (below_size (bq0_ HB.out)) : w.heap.size ≤ gb456)); have n6_ := Aside0.mk ((by rw [hg]; exact (below_size (bq0_ HB.out)) : w.heap.size ≤ gb456)); clear HO_6; clear HO451; clear HO454; clear HB; have HO_6 := n0_; have HO451 := n1_; have HO454 := n2_; have HB := n3_; have BK456 := n4_; have GW456 := n5_; have GE456 := n6_; clear n0_ n1_ n2_ n3_ n4_ n5_ n6_; clear hb hbox hg; obtain ⟨Ao72, co72, eo72⟩ := Kd.R_slice HO451.out; subst eo72; have hcz73_0 : w71.cell? ⟨gb456, 0, none⟩ = some (.slice none 0 0) := (blk_cell BK456.out 0).trans rfl; have hcz73_1 : w71.cell? ⟨gb456, 1, none⟩ = some (.slice none 0 0) := (blk_cell BK456.out 1).trans rfl; have hfz73_0 := blk_frozen BK456.out 0; have hfz73_1 := blk_frozen BK456.out 1; obtain ⟨Ao74, co74, eo74⟩ := Kd.R_slice HO454.out; subst eo74) | ((with_reducible refine gate_callee (f := 11) rfl ?_); refine goesL_ (some 101) rfl rfl Try.func11 (by kernel_rfl) rfl #[.slice Ao69 x6_2.length co69, .int .i64 (wrap64 ((wrap64 ((wrap64 (x7_3 + 1)) + (wrap64 (rd l1 x11_3)))) - 1))] rfl (by (try simp only [List.map_toArray, List.map_cons, List.map_nil]); first | done | rfl | (simp only [List.length_drop, List.length_take]; rfl)) ?_; (with_reducible refine (chain_Read.calls kj30 _ _ x6_2 (wrap64 ((wrap64 ((wrap64 (x7_3 + 1)) + (wrap64 (rd l1 x11_3)))) - 1)) t457 t460 t463 _ ?side1 ?side2 A37.out).mono ?_); (case side1 => refine (Kd.V_reads' (e := 41) (base := w.heap.size) (ok := fun k_ => (((True ∧ some k_ ≠ (.slice Ao72 t449.length co72 : Value).ownBlock) ∧ some k_ ≠ (.slice Ao74 t452.length co74 : Value).ownBlock) ∧ k_ ≠ gb456)) (n := x6_2.length) (c := co69) ?_).2.2; exact (by (with_reducible repeat (first | apply Kd.V_alloc | apply Kd.V_drewN | apply Kd.V_drew)); exact (Kd.V_mono (Kd.V_far (p := ⟨gb456, 1, none⟩) (Kd.V_far (p := ⟨gb456, 0, none⟩) (Kd.V_mono HO_6.out (fun k_ hk => (⟨hk, hk.2⟩ : _ ∧ k_ ≠ gb456))) (fun _ hk => hk.2) (.slice Ao72 t449.length co72)) (fun _ hk => hk.2) (.slice Ao74 t452.length co74)) (fun _ h_ => h_.1)))); (case side2 => exact (Kd.V_reads' HO_6.out).2.1); rintro e w75 ⟨v458, v461, rfl, ho0, ho1, hb⟩; refine ⟨_, rfl, ?_⟩; have n0_ := Aside0.mk (Kd.V_mono (Kd.V_told (Kd.V_told (Kd.V_old (by (with_reducible repeat (first | apply Kd.V_alloc | apply Kd.V_drewN | apply Kd.V_drew)); exact (Kd.V_mono (Kd.V_far (p := ⟨gb456, 1, none⟩) (Kd.V_far (p := ⟨gb456, 0, none⟩) (Kd.V_mono HO_6.out (fun k_ hk => (⟨hk, hk.2⟩ : _ ∧ k_ ≠ gb456))) (fun _ hk => hk.2) (.slice Ao72 t449.length co72)) (fun _ hk => hk.2) (.slice Ao74 t452.length co74)) (fun _ h_ => h_.1))) hb) (Kd.R_base ho0)) (Kd.R_base ho1)) (fun _ h_ => h_.1)); have n1_ := Aside0.mk (Kd.R_mono (Kd.R_told (Kd.R_told (Kd.R_old (by (with_reducible repeat (first | apply Kd.R_alloc | apply Kd.R_drewN | apply Kd.R_drew)); exact (Kd.R_mono (Kd.R_far (p := ⟨gb456, 1, none⟩) (Kd.R_far (p := ⟨gb456, 0, none⟩) (Kd.R_types HO451.out BK456.out (by decide)) (fun _ hk => hk.2) (.slice Ao72 t449.length co72)) (fun _ hk => hk.2) (.slice Ao74 t452.length co74)) (fun _ h_ => h_.1))) hb) (Kd.R_base ho0)) (Kd.R_base ho1)) (fun _ h_ => h_.1)); have n2_ := Aside0.mk (Kd.R_mono (Kd.R_told (Kd.R_told (Kd.R_old (by (with_reducible repeat (first | apply Kd.R_alloc | apply Kd.R_drewN | apply Kd.R_drew)); exact (Kd.R_mono (Kd.R_far (p := ⟨gb456, 1, none⟩) (Kd.R_far (p := ⟨gb456, 0, none⟩) (Kd.R_types HO454.out BK456.out (by decide)) (fun _ hk => hk.2) (.slice Ao72 t449.length co72)) (fun _ hk => hk.2) (.slice Ao74 t452.length co74)) (fun _ h_ => h_.1))) hb) (Kd.R_base ho0)) (Kd.R_base ho1)) (fun _ h_ => h_.1)); have n3_ := Aside0.mk (Kd.R_lower (Kd.R_new' (Kd.R_new' ho0 (Kd.R_lt (by (with_reducible repeat (first | apply Kd.R_alloc | apply Kd.R_drewN | apply Kd.R_drew)); exact (Kd.R_mono (Kd.R_far (p := ⟨gb456, 1, none⟩) (Kd.R_far (p := ⟨gb456, 0, none⟩) (Kd.R_types HO451.out BK456.out (by decide)) (fun _ hk => hk.2) (.slice Ao72 t449.length co72)) (fun _ hk => hk.2) (.slice Ao74 t452.length co74)) (fun _ h_ => h_.1))))) (Kd.R_lt (by (with_reducible repeat (first | apply Kd.R_alloc | apply Kd.R_drewN | apply Kd.R_drew)); exact (Kd.R_mono (Kd.R_far (p := ⟨gb456, 1, none⟩) (Kd.R_far (p := ⟨gb456, 0, none⟩) (Kd.R_types HO454.out BK456.out (by decide)) (fun _ hk => hk.2) (.slice Ao72 t449.length co72)) (fun _ hk => hk.2) (.slice Ao74 t452.length co74)) (fun _ h_ => h_.1))))) (below_size (bq1_ HB.out GE456.out))); have n4_ := Aside0.mk (Kd.R_lower (Kd.R_new' (Kd.R_new' ho1 (Kd.R_lt (by (with_reducible repeat (first | apply Kd.R_alloc | apply Kd.R_drewN | apply Kd.R_drew)); exact (Kd.R_mono (Kd.R_far (p := ⟨gb456, 1, none⟩) (Kd.R_far (p := ⟨gb456, 0, none⟩) (Kd.R_types HO451.out BK456.out (by decide)) (fun _ hk => hk.2) (.slice Ao72 t449.length co72)) (fun _ hk => hk.2) (.slice Ao74 t452.length co74)) (fun _ h_ => h_.1))))) (Kd.R_lt (by (with_reducible repeat (first | apply Kd.R_alloc | apply Kd.R_drewN | apply Kd.R_drew)); exact (Kd.R_mono (Kd.R_far (p := ⟨gb456, 1, none⟩) (Kd.R_far (p := ⟨gb456, 0, none⟩) (Kd.R_types HO454.out BK456.out (by decide)) (fun _ hk => hk.2) (.slice Ao72 t449.length co72)) (fun _ hk => hk.2) (.slice Ao74 t452.length co74)) (fun _ h_ => h_.1))))) (below_size (bq1_ HB.out GE456.out))); have n5_ := Aside0.mk (blk_below (g := gb456) (o := .cells #[.slice Ao72 t449.length co72, .slice Ao74 t452.length co74] 25 (0, 0)) (by (with_reducible repeat (first | refine blk_drewN ?_ _ | refine blk_drew ?_ | refine blk_alloc ?_ _)); refine blk_put (cs := #[.slice Ao72 t449.length co72, .slice none 0 0]) ?_ 1 _ rfl; (with_reducible repeat (first | refine blk_drewN ?_ _ | refine blk_drew ?_ | refine blk_alloc ?_ _)); refine blk_put (cs := #[.slice none 0 0, .slice none 0 0]) ?_ 0 _ rfl; (with_reducible repeat (first | refine blk_drewN ?_ _ | refine blk_drew ?_ | refine blk_alloc ?_ _)); exact BK456.out) hb); have n6_ := Aside0.mk (below_step (bq1_ HB.out GE456.out) hb); clear HO_6; clear HO451; clear HO454; clear BK456; clear HB; have HO_6 := n0_; have HO451 := n1_; have HO454 := n2_; have HO459 := n3_; have HO462 := n4_; have BK456 := n5_; have HB := n6_; clear n0_ n1_ n2_ n3_ n4_ n5_ n6_; (try clear hb); (try clear hb2); (try clear hk); (try clear hi); (try clear ho0); (try clear ho1)) | ((with_reducible refine gate_dst (N := 14) rfl ?_); (try (refine gate_guard (by rfl) ?_; dsimp only)); refine box_event ?hg (N := 14) ?hd (cs := #[.slice none 0 0, .slice none 0 0]) (t := 25) ?hr ?_; (case hd => rfl); (case hg => rfl); (case hr => first | (go_simp; done) | (go_simp; rfl)); intro gb464 hg w76 hbox hb; have n0_ := Aside0.mk (Kd.V_below (Kd.V_elderB (mvV_ HO_6.out) gb464 (Nat.le_of_eq hg.symm)) hb); have n1_ := Aside0.mk (Kd.R_below (mvR_ HO451.out) hb); have n2_ := Aside0.mk (Kd.R_below (mvR_ HO454.out) hb); have n3_ := Aside0.mk (Kd.R_below (mvR_ HO459.out) hb); have n4_ := Aside0.mk (Kd.R_below (mvR_ HO462.out) hb); have n5_ := Aside0.mk (blk_below (g := gb456) (o := .cells #[.slice Ao72 t449.length co72, .slice Ao74 t452.length co74] 25 (0, 0)) (mvK_ BK456.out) hb); have n6_ := Aside0.mk (below_step (bq1_ HB.out GE456.out) hb); have n7_ := Aside0.mk (hbox); have n8_ := Aside0.mk ((by rw [hg]; exact (below_size (bq1_ HB.out GE456.out)) : w.heap.size ≤ gb464)); have n9_ := Aside0.mk ((by rw [hg]; exact (below_size (bq1_ HB.out GE456.out)) : w.heap.size ≤ gb464)); have n10_ := Aside0.mk ((by rw [hg]; exact Nat.ne_of_lt (blk_lt (g := gb456) (o := .cells #[.slice Ao72 t449.length co72, .slice Ao74 t452.length co74] 25 (0, 0)) (mvK_ BK456.out)) : gb456 ≠ gb464)); have n11_ := Aside0.mk ((by rw [hg]; exact Nat.ne_of_gt (blk_lt (g := gb456) (o := .cells #[.slice Ao72 t449.length co72, .slice Ao74 t452.length co74] 25 (0, 0)) (mvK_ BK456.out)) : gb464 ≠ gb456)); clear HO_6; clear HO451; clear HO454; clear HO459; clear HO462; clear BK456; clear HB; have HO_6 := n0_; have HO451 := n1_; have HO454 := n2_; have HO459 := n3_; have HO462 := n4_; have BK456 := n5_; have HB := n6_; have BK464 := n7_; have GW464 := n8_; have GE464 := n9_; have NB456_464 := n10_; have NB464_456 := n11_; clear n0_ n1_ n2_ n3_ n4_ n5_ n6_ n7_ n8_ n9_ n10_ n11_; clear hb hbox hg; obtain ⟨Ao77, co77, eo77⟩ := Kd.R_slice HO459.out; subst eo77; have hnb78 := NB464_456.out; have hnc78 := NB456_464.out; have hcz79_0 : w76.cell? ⟨gb464, 0, none⟩ = some (.slice none 0 0) := (blk_cell BK464.out 0).trans rfl; have hcz79_1 : w76.cell? ⟨gb464, 1, none⟩ = some (.slice none 0 0) := (blk_cell BK464.out 1).trans rfl; have hfz79_0 := blk_frozen BK464.out 0; have hfz79_1 := blk_frozen BK464.out 1; obtain ⟨Ao80, co80, eo80⟩ := Kd.R_slice HO462.out; subst eo80))
                      have n0_ : Aside0 (Kd.V k41 41 ((w76.setCell ⟨gb464, 0, none⟩ (.slice Ao77 t457.length co77)).setCell ⟨gb464, 1, none⟩ (.slice Ao80 t460.length co80)) w.heap.size (fun k_ => some k_ ≠ (.slice Ao72 t449.length co72 : Value).ownBlock ∧ some k_ ≠ (.slice Ao74 t452.length co74 : Value).ownBlock ∧ some k_ ≠ (.slice Ao77 t457.length co77 : Value).ownBlock ∧ some k_ ≠ (.slice Ao80 t460.length co80 : Value).ownBlock ∧ k_ ≠ gb456 ∧ k_ ≠ gb464) (.slice Ao69 x6_2.length co69) x6_2) := ⟨by (with_reducible repeat (first | apply Kd.V_alloc | apply Kd.V_drewN | apply Kd.V_drew)); exact Kd.V_mono (Kd.V_far (p := ⟨gb464, 1, none⟩) (Kd.V_far (p := ⟨gb464, 0, none⟩) (Kd.V_mono HO_6.out (fun k_ hk => (⟨hk, hk.2⟩ : _ ∧ k_ ≠ gb464))) (fun _ hk => hk.2) (.slice Ao77 t457.length co77)) (fun _ hk => hk.2) (.slice Ao80 t460.length co80)) (fun _ hk => ⟨hk.1.1.1.1.1.1.2, ⟨hk.1.1.1.1.1.2, ⟨hk.1.1.1.2, ⟨hk.1.1.2, ⟨hk.1.1.1.1.2, hk.1.2⟩⟩⟩⟩⟩)⟩
                      have n1_ : Aside0 (Kd.R (Kd.int .i64) 3 ((w76.setCell ⟨gb464, 0, none⟩ (.slice Ao77 t457.length co77)).setCell ⟨gb464, 1, none⟩ (.slice Ao80 t460.length co80)) w.heap.size (fun k_ => some k_ ≠ (.slice Ao74 t452.length co74 : Value).ownBlock ∧ some k_ ≠ (.slice Ao77 t457.length co77 : Value).ownBlock ∧ some k_ ≠ (.slice Ao80 t460.length co80 : Value).ownBlock) (.slice Ao72 t449.length co72) t449) := ⟨by (with_reducible repeat (first | apply Kd.R_alloc | apply Kd.R_drewN | apply Kd.R_drew)); exact Kd.R_mono (Kd.R_far (p := ⟨gb464, 1, none⟩) (Kd.R_far (p := ⟨gb464, 0, none⟩) (Kd.R_types HO451.out BK464.out (by decide)) (fun _ hk => hk.2) (.slice Ao77 t457.length co77)) (fun _ hk => hk.2) (.slice Ao80 t460.length co80)) (fun _ hk => ⟨hk.1.1.1, ⟨hk.1.1.2, hk.1.2⟩⟩)⟩
                      have n2_ : Aside0 (Kd.R (Kd.int .i64) 3 ((w76.setCell ⟨gb464, 0, none⟩ (.slice Ao77 t457.length co77)).setCell ⟨gb464, 1, none⟩ (.slice Ao80 t460.length co80)) w.heap.size (fun k_ => some k_ ≠ (.slice Ao72 t449.length co72 : Value).ownBlock ∧ some k_ ≠ (.slice Ao77 t457.length co77 : Value).ownBlock ∧ some k_ ≠ (.slice Ao80 t460.length co80 : Value).ownBlock) (.slice Ao74 t452.length co74) t452) := ⟨by (with_reducible repeat (first | apply Kd.R_alloc | apply Kd.R_drewN | apply Kd.R_drew)); exact Kd.R_mono (Kd.R_far (p := ⟨gb464, 1, none⟩) (Kd.R_far (p := ⟨gb464, 0, none⟩) (Kd.R_types HO454.out BK464.out (by decide)) (fun _ hk => hk.2) (.slice Ao77 t457.length co77)) (fun _ hk => hk.2) (.slice Ao80 t460.length co80)) (fun _ hk => ⟨hk.1.1.1, ⟨hk.1.1.2, hk.1.2⟩⟩)⟩
                      have n3_ : Aside0 (Kd.R (Kd.int .i64) 3 ((w76.setCell ⟨gb464, 0, none⟩ (.slice Ao77 t457.length co77)).setCell ⟨gb464, 1, none⟩ (.slice Ao80 t460.length co80)) w.heap.size (fun k_ => some k_ ≠ (.slice Ao72 t449.length co72 : Value).ownBlock ∧ some k_ ≠ (.slice Ao74 t452.length co74 : Value).ownBlock ∧ some k_ ≠ (.slice Ao80 t460.length co80 : Value).ownBlock) (.slice Ao77 t457.length co77) t457) := ⟨by (with_reducible repeat (first | apply Kd.R_alloc | apply Kd.R_drewN | apply Kd.R_drew)); exact Kd.R_mono (Kd.R_far (p := ⟨gb464, 1, none⟩) (Kd.R_far (p := ⟨gb464, 0, none⟩) (Kd.R_types HO459.out BK464.out (by decide)) (fun _ hk => hk.2) (.slice Ao77 t457.length co77)) (fun _ hk => hk.2) (.slice Ao80 t460.length co80)) (fun _ hk => ⟨hk.1.1.2, ⟨hk.1.2, hk.1.1.1⟩⟩)⟩
                      have n4_ : Aside0 (Kd.R (Kd.int .i64) 3 ((w76.setCell ⟨gb464, 0, none⟩ (.slice Ao77 t457.length co77)).setCell ⟨gb464, 1, none⟩ (.slice Ao80 t460.length co80)) w.heap.size (fun k_ => some k_ ≠ (.slice Ao72 t449.length co72 : Value).ownBlock ∧ some k_ ≠ (.slice Ao74 t452.length co74 : Value).ownBlock ∧ some k_ ≠ (.slice Ao77 t457.length co77 : Value).ownBlock) (.slice Ao80 t460.length co80) t460) := ⟨by (with_reducible repeat (first | apply Kd.R_alloc | apply Kd.R_drewN | apply Kd.R_drew)); exact Kd.R_mono (Kd.R_far (p := ⟨gb464, 1, none⟩) (Kd.R_far (p := ⟨gb464, 0, none⟩) (Kd.R_types HO462.out BK464.out (by decide)) (fun _ hk => hk.2) (.slice Ao77 t457.length co77)) (fun _ hk => hk.2) (.slice Ao80 t460.length co80)) (fun _ hk => ⟨hk.1.1.2, ⟨hk.1.2, hk.1.1.1⟩⟩)⟩
                      have n5_ : Aside0 (((w76.setCell ⟨gb464, 0, none⟩ (.slice Ao77 t457.length co77)).setCell ⟨gb464, 1, none⟩ (.slice Ao80 t460.length co80)).heap[gb456]? = some (.cells #[.slice Ao72 t449.length co72, .slice Ao74 t452.length co74] 25 (0, 0))) := ⟨by (with_reducible repeat (first | refine blk_drewN ?_ _ | refine blk_drew ?_ | refine blk_alloc ?_ _)); refine blk_far ?_ NB456_464.out _; (with_reducible repeat (first | refine blk_drewN ?_ _ | refine blk_drew ?_ | refine blk_alloc ?_ _)); refine blk_far ?_ NB456_464.out _; (with_reducible repeat (first | refine blk_drewN ?_ _ | refine blk_drew ?_ | refine blk_alloc ?_ _)); exact BK456.out⟩
                      have n6_ : Aside0 (((w76.setCell ⟨gb464, 0, none⟩ (.slice Ao77 t457.length co77)).setCell ⟨gb464, 1, none⟩ (.slice Ao80 t460.length co80)).heap[gb464]? = some (.cells #[.slice Ao77 t457.length co77, .slice Ao80 t460.length co80] 25 (0, 0))) := ⟨by (with_reducible repeat (first | refine blk_drewN ?_ _ | refine blk_drew ?_ | refine blk_alloc ?_ _)); refine blk_put (cs := #[.slice Ao77 t457.length co77, .slice none 0 0]) ?_ 1 _ rfl; (with_reducible repeat (first | refine blk_drewN ?_ _ | refine blk_drew ?_ | refine blk_alloc ?_ _)); refine blk_put (cs := #[.slice none 0 0, .slice none 0 0]) ?_ 0 _ rfl; (with_reducible repeat (first | refine blk_drewN ?_ _ | refine blk_drew ?_ | refine blk_alloc ?_ _)); exact BK464.out⟩
                      have n7_ : Aside0 (Below w.heap.size w ((w76.setCell ⟨gb464, 0, none⟩ (.slice Ao77 t457.length co77)).setCell ⟨gb464, 1, none⟩ (.slice Ao80 t460.length co80))) := ⟨by repeat (first | (with_reducible first | exact HB.out | apply below_alloc | apply pw_below_drewN | apply below_drew1 | refine below_set ?_ GE456.out | refine below_set ?_ GE464.out) | exact HB.out)⟩
                      (try clear HO_6)
                      (try clear HO451)
                      (try clear HO454)
                      (try clear HO459)
                      (try clear HO462)
                      (try clear BK456)
                      (try clear BK464)
                      (try clear HB)
                      generalize ((w76.setCell ⟨gb464, 0, none⟩ (.slice Ao77 t457.length co77)).setCell ⟨gb464, 1, none⟩ (.slice Ao80 t460.length co80)) = w81 at n0_ n1_ n2_ n3_ n4_ n5_ n6_ n7_ ⊢
                      have HO_6 := n0_
                      have HO451 := n1_
                      have HO454 := n2_
                      have HO459 := n3_
                      have HO462 := n4_
                      have BK456 := n5_
                      have BK464 := n6_
                      have HB := n7_
                      clear n0_ n1_ n2_ n3_ n4_ n5_ n6_ n7_
                      have n0_ := Aside0.mk (Kd.V_drew HO_6.out)
                      have n1_ := Aside0.mk (Kd.R_drew HO451.out)
                      have n2_ := Aside0.mk (Kd.R_drew HO454.out)
                      have n3_ := Aside0.mk (Kd.R_drew HO459.out)
                      have n4_ := Aside0.mk (Kd.R_drew HO462.out)
                      have n5_ := Aside0.mk (blk_drew BK456.out)
                      have n6_ := Aside0.mk (blk_drew BK464.out)
                      have n7_ := Aside0.mk (below_drew1 HB.out)
                      clear HO_6 HO451 HO454 HO459 HO462 BK456 BK464 HB
                      have HO_6 := n0_
                      have HO451 := n1_
                      have HO454 := n2_
                      have HO459 := n3_
                      have HO462 := n4_
                      have BK456 := n5_
                      have BK464 := n6_
                      have HB := n7_
                      clear n0_ n1_ n2_ n3_ n4_ n5_ n6_ n7_
                      have p465 : 0 ≤ (x11_3 : Int) := of_decide_eq_true (by first | (with_reducible assumption) | assumption)
                      have q465 : x11_3 < (l0.length : Int) := of_decide_eq_true (by first | (with_reducible assumption) | assumption)
                      obtain ⟨ad465, e465, hx465_0⟩ := Kd.at_int HR0.out x11_3 p465 q465
                      have hw465_0 := hx465_0
                      cases e465
                      replace hx465_0 := (HB.out.cell (World.block_lt_of_cell? w _ hx465_0)).trans hx465_0
                      replace p465 := eq_true p465
                      replace q465 := eq_true q465
                      have p470 : 0 ≤ ((ji44) : Int) := of_decide_eq_true (by first | (with_reducible assumption) | assumption)
                      have q470 : (ji44) < (l0.length : Int) := of_decide_eq_true (by first | (with_reducible assumption) | assumption)
                      obtain ⟨ad470, e470, hx470_0⟩ := Kd.at_int HR0.out (ji44) p470 q470
                      have hw470_0 := hx470_0
                      obtain rfl : ad465 = ad470 := (by injection e470)
                      replace hx470_0 := (HB.out.cell (World.block_lt_of_cell? w _ hx470_0)).trans hx470_0
                      replace p470 := eq_true p470
                      replace q470 := eq_true q470
                      refine start_ (n := 35) (S := fun w' => w'.cell? ⟨gb456, 0, none⟩ = some (.slice Ao72 t449.length co72) ∧ w'.cell? ⟨gb456, 1, none⟩ = some (.slice Ao74 t452.length co74) ∧ w'.cell? ⟨gb464, 0, none⟩ = some (.slice Ao77 t457.length co77) ∧ w'.cell? ⟨gb464, 1, none⟩ = some (.slice Ao80 t460.length co80) ∧ w'.cell? (ad465.add (x11_3).toNat) = some (.int .i64 (rd l0 x11_3)) ∧ w'.cell? (ad465.add ((ji44)).toNat) = some (.int .i64 (rd l0 (ji44)))) (ds := []) L7_0 (by kernel_rfl) rfl rfl ⟨(blk_cell BK456.out 0).trans rfl, (blk_cell BK456.out 1).trans rfl, (blk_cell BK464.out 0).trans rfl, (blk_cell BK464.out 1).trans rfl, ((HB.out.cell (World.block_lt_of_cell? w _ hw465_0)).trans hw465_0), ((HB.out.cell (World.block_lt_of_cell? w _ hw470_0)).trans hw470_0)⟩ (fun hHeld => ?_); refine with_tabW fullerlaw17_ChainMany.tab21 fullerlaw17_ChainMany.bits21 (fun HT_ HW_ => ?_)
                      generalize w81.drew = w82 at HO_6 HO451 HO454 HO459 HO462 BK456 BK464 HB hx465_0 hx470_0 hHeld ⊢
                      refine pure_ (i := 0) (N := some 104) (v := ?_) (a' := ?_) L7_1 rfl rfl (any_of HT_.out (by kernel_rfl)) (fun _ _ _ h => h) (Or.inl ⟨by rfl, ?_⟩) ?_ ?_
                      rotate_left
                      ·intro w'
                       go_simp
                       with_reducible rfl
                      rotate_left
                      ·simp only [Act.put, sA_, sB_, sC_, i64_w, i32_w]
                       rfl
                      refine pure_ (i := 1) (N := some 105) (v := ?_) (a' := ?_) L7_2 rfl rfl (any_of HT_.out (by kernel_rfl)) (fun _ _ _ h => h) (Or.inl ⟨by rfl, ?_⟩) ?_ ?_
                      rotate_left
                      ·intro w'
                       go_simp
                       with_reducible rfl
                      rotate_left
                      ·simp only [Act.put, sA_, sB_, sC_, i64_w, i32_w]
                       rfl
                      refine pure_ (i := 2) (N := some 106) (v := ?_) (a' := ?_) L7_3 rfl rfl (any_of HT_.out (by kernel_rfl)) (fun _ _ _ h => h) (Or.inl ⟨by rfl, ?_⟩) ?_ ?_
                      rotate_left
                      ·intro w'
                       go_simp
                       with_reducible rfl
                      rotate_left
                      ·simp only [Act.put, sA_, sB_, sC_, i64_w, i32_w]
                       rfl
                      refine pure_ (i := 3) (N := some 107) (v := ?_) (a' := ?_) L7_4 rfl rfl (any_of HT_.out (by kernel_rfl)) (fun _ _ _ h => h) (Or.inl ⟨by rfl, ?_⟩) ?_ ?_
                      rotate_left
                      ·intro w'
                       go_simp
                       with_reducible rfl
                      rotate_left
                      ·simp only [Act.put, sA_, sB_, sC_, i64_w, i32_w]
                       rfl
                      refine pure_ (i := 5) (N := some 109) (v := ?_) (a' := ?_) L7_5 rfl rfl (any_of HT_.out (by kernel_rfl)) (fun _ _ _ h => h) (Or.inl ⟨by rfl, ?_⟩) ?_ ?_
                      rotate_left
                      ·intro w'
                       go_simp
                       with_reducible rfl
                      rotate_left
                      ·simp only [Act.put, sA_, sB_, sC_, i64_w, i32_w]
                       rfl
                      refine pure_ (i := 6) (N := some 110) (v := ?_) (a' := ?_) L7_6 rfl rfl (any_of HT_.out (by kernel_rfl)) (fun _ _ _ h => h) (Or.inl ⟨by rfl, ?_⟩) ?_ ?_
                      rotate_left
                      ·intro w'
                       go_simp
                       with_reducible rfl
                      rotate_left
                      ·simp only [Act.put, sA_, sB_, sC_, i64_w, i32_w]
                       rfl
                      refine pure_ (i := 7) (N := some 111) (v := ?_) (a' := ?_) L7_7 rfl rfl (any_of HT_.out (by kernel_rfl)) (fun _ _ _ h => h) (Or.inl ⟨by rfl, ?_⟩) ?_ ?_
                      rotate_left
                      ·intro w'
                       go_simp
                       with_reducible rfl
                      rotate_left
                      ·simp only [Act.put, sA_, sB_, sC_, i64_w, i32_w]
                       rfl
                      refine take_ (i := 4) (N := some 108) (v := ?_) (a' := ?_) L7_8 rfl rfl (take_ofW HT_.out HW_.out (by kernel_rfl)) (fun _ _ _ h => h) (Or.inl ⟨by rfl, ?_⟩) hHeld ?_ ?_
                      rotate_left
                      ·rintro w' ⟨s0, s1, s2, s3, s4, s5⟩
                       go_simp
                       with_reducible rfl
                      rotate_left
                      ·simp only [Act.put, sA_, sB_, sC_, i64_w, i32_w]
                       rfl
                      refine take_ (i := 8) (N := some 112) (v := ?_) (a' := ?_) L7_9 rfl rfl (take_ofW HT_.out HW_.out (by kernel_rfl)) (fun _ _ _ h => h) (Or.inl ⟨by rfl, ?_⟩) hHeld ?_ ?_
                      rotate_left
                      ·rintro w' ⟨s0, s1, s2, s3, s4, s5⟩
                       go_simp
                       with_reducible rfl
                      rotate_left
                      ·simp only [Act.put, sA_, sB_, sC_, i64_w, i32_w]
                       rfl
                      refine one_ (i := 9) (N := some 113) L7_10 rfl rfl (one_of HT_.out (by kernel_rfl)) (by decide) (fun K hK => ?_)
                      refine Kd.R_lit_step (Kd.int .i64) _ 3 ?hg (N := 113) ?hd (xs := ([rd l0 x11_3] : List Int)) (inner := [.int .i64 (rd l0 x11_3)]) (ok := fun _ => True) (okp := fun _ => True) ?hr ?hp (fun _ hk => hk) trivial (Below.refl _ _) (Nat.le_refl _) (by simp) ?_; (case hd => rfl); (case hg => rfl); (case hr => first | (go_simp; done) | (go_simp; rfl)); (case hp => exact (Reps.one (show Kd.M (Kd.int .i64) _ _ _ (rd l0 x11_3) [.int .i64 (rd l0 x11_3)] from rfl) (Reps.none _ _)))
                      intro v467 w83 ho84 hb hg_ hnew_
                      clear hg_ hnew_
                      (first | rw [← Ny466.out] at ho84 | (simp only [Int.reduceToNat] at ho84; rw [← Ny466.out] at ho84))
                      have n0_ := Aside0.mk (Kd.V_elder' (mvV_ HO_6.out) (Kd.R_base ho84) hb)
                      have n1_ := Aside0.mk (Kd.R_elder' (mvR_ HO451.out) (Kd.R_base ho84) hb)
                      have n2_ := Aside0.mk (Kd.R_elder' (mvR_ HO454.out) (Kd.R_base ho84) hb)
                      have n3_ := Aside0.mk (Kd.R_elder' (mvR_ HO459.out) (Kd.R_base ho84) hb)
                      have n4_ := Aside0.mk (Kd.R_elder' (mvR_ HO462.out) (Kd.R_base ho84) hb)
                      have n5_ := Aside0.mk (Kd.R_lower (Kd.R_new' (Kd.R_new' (Kd.R_new' (Kd.R_new' ho84 (Kd.R_lt (mvR_ HO451.out))) (Kd.R_lt (mvR_ HO454.out))) (Kd.R_lt (mvR_ HO459.out))) (Kd.R_lt (mvR_ HO462.out))) (below_size (bq2_ HB.out GE456.out GE464.out)))
                      have n6_ := Aside0.mk (blk_below (g := gb456) (o := .cells #[.slice Ao72 t449.length co72, .slice Ao74 t452.length co74] 25 (0, 0)) (mvK_ BK456.out) hb)
                      have n7_ := Aside0.mk (blk_below (g := gb464) (o := .cells #[.slice Ao77 t457.length co77, .slice Ao80 t460.length co80] 25 (0, 0)) (mvK_ BK464.out) hb)
                      have n8_ := Aside0.mk (below_step (bq2_ HB.out GE456.out GE464.out) hb)
                      clear HO_6 HO451 HO454 HO459 HO462 BK456 BK464 HB
                      have HO_6 := n0_
                      have HO451 := n1_
                      have HO454 := n2_
                      have HO459 := n3_
                      have HO462 := n4_
                      have HO468 := n5_
                      have BK456 := n6_
                      have BK464 := n7_
                      have HB := n8_
                      clear n0_ n1_ n2_ n3_ n4_ n5_ n6_ n7_ n8_ hb ho84
                      obtain ⟨Ao85, co85, eo85⟩ := Kd.R_slice HO468.out
                      (first | subst eo85 | (injection eo85 with f1_ f2_ f3_; have f4_ := f1_.symm; have f5_ := f3_.symm; clear f1_ f2_ f3_; subst f4_; subst f5_))
                      refine hK.out _ _ ⟨(blk_cell BK456.out 0).trans rfl, (blk_cell BK456.out 1).trans rfl, (blk_cell BK464.out 0).trans rfl, (blk_cell BK464.out 1).trans rfl, ((HB.out.cell (World.block_lt_of_cell? w _ hw465_0)).trans hw465_0), ((HB.out.cell (World.block_lt_of_cell? w _ hw470_0)).trans hw470_0)⟩ (fun hHeld => ?_)
                      clear hK K
                      refine norm_ (a' := ?_) ?_ ?_
                      rotate_left
                      ·show Act.put _ (some 113) _ = _
                       simp only [Act.put, sA_, sB_, sC_, i64_w, i32_w]
                       rfl
                      refine one_ (i := 10) (N := some 114) L7_11 rfl rfl (one_of HT_.out (by kernel_rfl)) (by decide) (fun K hK => ?_)
                      refine goes_ Try.func23 (by kernel_rfl) rfl #[.slice Ao74 t452.length co74, .slice Ao85 y466.length co85] (by rfl) rfl rfl (by (try simp only [List.map_toArray, List.map_cons, List.map_nil]); first | done | rfl | (simp only [List.length_drop, List.length_take]; rfl)) ?_
                      with_reducible refine (fullerref02_Same.calls kj30 _ _ t452 _ _ y466 true _ ?side1 ?side2 ?side3 ?side4 A40.out).mono ?_
                      (case side1 => repeat (first | exact (Kd.R_reads' HO454.out).2.2 | (with_reducible refine Kd.C_alloc ?_ _) | (with_reducible refine Kd.C_drewN ?_ _) | (with_reducible refine Kd.C_drew ?_)))
                      (case side2 => exact (Kd.R_reads' HO454.out).2.1)
                      (case side3 => repeat (first | exact (Kd.R_reads' HO468.out).2.2 | (with_reducible refine Kd.C_alloc ?_ _) | (with_reducible refine Kd.C_drewN ?_ _) | (with_reducible refine Kd.C_drew ?_)))
                      (case side4 => exact (Kd.R_reads' HO468.out).2.1)
                      rintro e w' ⟨rfl, ⟨nd, rfl⟩⟩
                      refine ⟨_, rfl, ?_⟩
                      refine hK.out _ _ ⟨(blk_cell BK456.out 0).trans rfl, (blk_cell BK456.out 1).trans rfl, (blk_cell BK464.out 0).trans rfl, (blk_cell BK464.out 1).trans rfl, ((HB.out.cell (World.block_lt_of_cell? w _ hw465_0)).trans hw465_0), ((HB.out.cell (World.block_lt_of_cell? w _ hw470_0)).trans hw470_0)⟩ (fun hHeld => ?_)
                      clear hK K
                      refine norm_ (a' := ?_) ?_ ?_
                      rotate_left
                      ·show Act.put _ (some 114) _ = _
                       simp only [Act.put, sA_, sB_, sC_, i64_w, i32_w]
                       rfl
                      refine pure_ (i := 11) (N := some 115) (v := ?_) (a' := ?_) L7_12 rfl rfl (any_of HT_.out (by kernel_rfl)) (fun _ _ _ h => h) (Or.inl ⟨by rfl, ?_⟩) ?_ ?_
                      rotate_left
                      ·intro w'
                       go_simp
                       with_reducible rfl
                      rotate_left
                      ·simp only [Act.put, sA_, sB_, sC_, i64_w, i32_w]
                       rfl
                      refine pure_ (i := 12) (N := some 116) (v := ?_) (a' := ?_) L7_13 rfl rfl (any_of HT_.out (by kernel_rfl)) (fun _ _ _ h => h) (Or.inl ⟨by rfl, ?_⟩) ?_ ?_
                      rotate_left
                      ·intro w'
                       go_simp
                       with_reducible rfl
                      rotate_left
                      ·simp only [Act.put, sA_, sB_, sC_, i64_w, i32_w]
                       rfl
                      refine pure_ (i := 13) (N := some 117) (v := ?_) (a' := ?_) L7_14 rfl rfl (any_of HT_.out (by kernel_rfl)) (fun _ _ _ h => h) (Or.inl ⟨by rfl, ?_⟩) ?_ ?_
                      rotate_left
                      ·intro w'
                       go_simp
                       with_reducible rfl
                      rotate_left
                      ·simp only [Act.put, sA_, sB_, sC_, i64_w, i32_w]
                       rfl
                      refine pure_ (i := 14) (N := some 118) (v := ?_) (a' := ?_) L7_15 rfl rfl (any_of HT_.out (by kernel_rfl)) (fun _ _ _ h => h) (Or.inl ⟨by rfl, ?_⟩) ?_ ?_
                      rotate_left
                      ·intro w'
                       go_simp
                       with_reducible rfl
                      rotate_left
                      ·simp only [Act.put, sA_, sB_, sC_, i64_w, i32_w]
                       rfl
                      refine pure_ (i := 15) (N := some 119) (v := ?_) (a' := ?_) L7_16 rfl rfl (any_of HT_.out (by kernel_rfl)) (fun _ _ _ h => h) (Or.inl ⟨by rfl, ?_⟩) ?_ ?_
                      rotate_left
                      ·intro w'
                       go_simp
                       with_reducible rfl
                      rotate_left
                      ·simp only [Act.put, sA_, sB_, sC_, i64_w, i32_w]
                       rfl
                      refine pure_ (i := 16) (N := some 120) (v := ?_) (a' := ?_) L7_17 rfl rfl (any_of HT_.out (by kernel_rfl)) (fun _ _ _ h => h) (Or.inl ⟨by rfl, ?_⟩) ?_ ?_
                      rotate_left
                      ·intro w'
                       go_simp
                       with_reducible rfl
                      rotate_left
                      ·simp only [Act.put, sA_, sB_, sC_, i64_w, i32_w]
                       rfl
                      refine pure_ (i := 17) (N := some 121) (v := ?_) (a' := ?_) L7_18 rfl rfl (any_of HT_.out (by kernel_rfl)) (fun _ _ _ h => h) (Or.inl ⟨by rfl, ?_⟩) ?_ ?_
                      rotate_left
                      ·intro w'
                       go_simp
                       with_reducible rfl
                      rotate_left
                      ·simp only [Act.put, sA_, sB_, sC_, i64_w, i32_w]
                       rfl
                      refine pure_ (i := 18) (N := some 122) (v := ?_) (a' := ?_) L7_19 rfl rfl (any_of HT_.out (by kernel_rfl)) (fun _ _ _ h => h) (Or.inl ⟨by rfl, ?_⟩) ?_ ?_
                      rotate_left
                      ·intro w'
                       go_simp
                       with_reducible rfl
                      rotate_left
                      ·simp only [Act.put, sA_, sB_, sC_, i64_w, i32_w]
                       rfl
                      refine pure_ (i := 19) (N := some 123) (v := ?_) (a' := ?_) L7_20 rfl rfl (any_of HT_.out (by kernel_rfl)) (fun _ _ _ h => h) (Or.inl ⟨by rfl, ?_⟩) ?_ ?_
                      rotate_left
                      ·intro w'
                       go_simp
                       with_reducible rfl
                      rotate_left
                      ·simp only [Act.put, sA_, sB_, sC_, i64_w, i32_w]
                       rfl
                      refine pure_ (i := 20) (N := some 124) (v := ?_) (a' := ?_) L7_21 rfl rfl (any_of HT_.out (by kernel_rfl)) (fun _ _ _ h => h) (Or.inl ⟨by rfl, ?_⟩) ?_ ?_
                      rotate_left
                      ·intro w'
                       go_simp
                       with_reducible rfl
                      rotate_left
                      ·simp only [Act.put, sA_, sB_, sC_, i64_w, i32_w]
                       rfl
                      refine pure_ (i := 21) (N := some 125) (v := ?_) (a' := ?_) L7_22 rfl rfl (any_of HT_.out (by kernel_rfl)) (fun _ _ _ h => h) (Or.inl ⟨by rfl, ?_⟩) ?_ ?_
                      rotate_left
                      ·intro w'
                       go_simp
                       with_reducible rfl
                      rotate_left
                      ·simp only [Act.put, sA_, sB_, sC_, i64_w, i32_w]
                       rfl
                      refine pure_ (i := 22) (N := some 126) (v := ?_) (a' := ?_) L7_23 rfl rfl (any_of HT_.out (by kernel_rfl)) (fun _ _ _ h => h) (Or.inl ⟨by rfl, ?_⟩) ?_ ?_
                      rotate_left
                      ·intro w'
                       go_simp
                       with_reducible rfl
                      rotate_left
                      ·simp only [Act.put, sA_, sB_, sC_, i64_w, i32_w]
                       rfl
                      refine pure_ (i := 23) (N := some 127) (v := ?_) (a' := ?_) L7_24 rfl rfl (any_of HT_.out (by kernel_rfl)) (fun _ _ _ h => h) (Or.inl ⟨by rfl, ?_⟩) ?_ ?_
                      rotate_left
                      ·intro w'
                       go_simp
                       with_reducible rfl
                      rotate_left
                      ·simp only [Act.put, sA_, sB_, sC_, i64_w, i32_w]
                       rfl
                      refine pure_ (i := 25) (N := some 129) (v := ?_) (a' := ?_) L7_25 rfl rfl (any_of HT_.out (by kernel_rfl)) (fun _ _ _ h => h) (Or.inl ⟨by rfl, ?_⟩) ?_ ?_
                      rotate_left
                      ·intro w'
                       go_simp
                       with_reducible rfl
                      rotate_left
                      ·simp only [Act.put, sA_, sB_, sC_, i64_w, i32_w]
                       rfl
                      refine pure_ (i := 26) (N := some 130) (v := ?_) (a' := ?_) L7_26 rfl rfl (any_of HT_.out (by kernel_rfl)) (fun _ _ _ h => h) (Or.inl ⟨by rfl, ?_⟩) ?_ ?_
                      rotate_left
                      ·intro w'
                       go_simp
                       with_reducible rfl
                      rotate_left
                      ·simp only [Act.put, sA_, sB_, sC_, i64_w, i32_w]
                       rfl
                      refine pure_ (i := 27) (N := some 131) (v := ?_) (a' := ?_) L7_27 rfl rfl (any_of HT_.out (by kernel_rfl)) (fun _ _ _ h => h) (Or.inl ⟨by rfl, ?_⟩) ?_ ?_
                      rotate_left
                      ·intro w'
                       go_simp
                       with_reducible rfl
                      rotate_left
                      ·simp only [Act.put, sA_, sB_, sC_, i64_w, i32_w]
                       rfl
                      refine pure_ (i := 28) (N := some 132) (v := ?_) (a' := ?_) L7_28 rfl rfl (any_of HT_.out (by kernel_rfl)) (fun _ _ _ h => h) (Or.inl ⟨by rfl, ?_⟩) ?_ ?_
                      rotate_left
                      ·intro w'
                       go_simp
                       with_reducible rfl
                      rotate_left
                      ·simp only [Act.put, sA_, sB_, sC_, i64_w, i32_w]
                       rfl
                      refine take_ (i := 24) (N := some 128) (v := ?_) (a' := ?_) L7_29 rfl rfl (take_ofW HT_.out HW_.out (by kernel_rfl)) (fun _ _ _ h => h) (Or.inl ⟨by rfl, ?_⟩) hHeld ?_ ?_
                      rotate_left
                      ·rintro w' ⟨s0, s1, s2, s3, s4, s5⟩
                       go_simp
                       with_reducible rfl
                      rotate_left
                      ·simp only [Act.put, sA_, sB_, sC_, i64_w, i32_w]
                       rfl
                      refine take_ (i := 29) (N := some 133) (v := ?_) (a' := ?_) L7_30 rfl rfl (take_ofW HT_.out HW_.out (by kernel_rfl)) (fun _ _ _ h => h) (Or.inl ⟨by rfl, ?_⟩) hHeld ?_ ?_
                      rotate_left
                      ·rintro w' ⟨s0, s1, s2, s3, s4, s5⟩
                       go_simp
                       with_reducible rfl
                      rotate_left
                      ·simp only [Act.put, sA_, sB_, sC_, i64_w, i32_w]
                       rfl
                      refine one_ (i := 30) (N := some 134) L7_31 rfl rfl (one_of HT_.out (by kernel_rfl)) (by decide) (fun K hK => ?_)
                      refine Kd.R_lit_step (Kd.int .i64) _ 3 ?hg (N := 134) ?hd (xs := ([rd l0 (ji44)] : List Int)) (inner := [.int .i64 (rd l0 (ji44))]) (ok := fun _ => True) (okp := fun _ => True) ?hr ?hp (fun _ hk => hk) trivial (Below.refl _ _) (Nat.le_refl _) (by simp) ?_; (case hd => rfl); (case hg => rfl); (case hr => first | (go_simp; done) | (go_simp; rfl)); (case hp => exact (Reps.one (show Kd.M (Kd.int .i64) _ _ _ (rd l0 (ji44)) [.int .i64 (rd l0 (ji44))] from rfl) (Reps.none _ _)))
                      intro v472 w86 ho87 hb hg_ hnew_
                      clear hg_ hnew_
                      (first | rw [← Ny471.out] at ho87 | (simp only [Int.reduceToNat] at ho87; rw [← Ny471.out] at ho87))
                      have n0_ := Aside0.mk (Kd.V_elder' (mvV_ HO_6.out) (Kd.R_base ho87) hb)
                      have n1_ := Aside0.mk (Kd.R_elder' (mvR_ HO451.out) (Kd.R_base ho87) hb)
                      have n2_ := Aside0.mk (Kd.R_elder' (mvR_ HO454.out) (Kd.R_base ho87) hb)
                      have n3_ := Aside0.mk (Kd.R_elder' (mvR_ HO459.out) (Kd.R_base ho87) hb)
                      have n4_ := Aside0.mk (Kd.R_elder' (mvR_ HO462.out) (Kd.R_base ho87) hb)
                      have n5_ := Aside0.mk (Kd.R_elder' (mvR_ HO468.out) (Kd.R_base ho87) hb)
                      have n6_ := Aside0.mk (Kd.R_lower (Kd.R_new' (Kd.R_new' (Kd.R_new' (Kd.R_new' (Kd.R_new' ho87 (Kd.R_lt (mvR_ HO451.out))) (Kd.R_lt (mvR_ HO454.out))) (Kd.R_lt (mvR_ HO459.out))) (Kd.R_lt (mvR_ HO462.out))) (Kd.R_lt (mvR_ HO468.out))) (below_size (bq2_ HB.out GE456.out GE464.out)))
                      have n7_ := Aside0.mk (blk_below (g := gb456) (o := .cells #[.slice Ao72 t449.length co72, .slice Ao74 t452.length co74] 25 (0, 0)) (mvK_ BK456.out) hb)
                      have n8_ := Aside0.mk (blk_below (g := gb464) (o := .cells #[.slice Ao77 t457.length co77, .slice Ao80 t460.length co80] 25 (0, 0)) (mvK_ BK464.out) hb)
                      have n9_ := Aside0.mk (below_step (bq2_ HB.out GE456.out GE464.out) hb)
                      clear HO_6 HO451 HO454 HO459 HO462 HO468 BK456 BK464 HB
                      have HO_6 := n0_
                      have HO451 := n1_
                      have HO454 := n2_
                      have HO459 := n3_
                      have HO462 := n4_
                      have HO468 := n5_
                      have HO473 := n6_
                      have BK456 := n7_
                      have BK464 := n8_
                      have HB := n9_
                      clear n0_ n1_ n2_ n3_ n4_ n5_ n6_ n7_ n8_ n9_ hb ho87
                      obtain ⟨Ao88, co88, eo88⟩ := Kd.R_slice HO473.out
                      (first | subst eo88 | (injection eo88 with f1_ f2_ f3_; have f4_ := f1_.symm; have f5_ := f3_.symm; clear f1_ f2_ f3_; subst f4_; subst f5_))
                      refine hK.out _ _ ⟨(blk_cell BK456.out 0).trans rfl, (blk_cell BK456.out 1).trans rfl, (blk_cell BK464.out 0).trans rfl, (blk_cell BK464.out 1).trans rfl, ((HB.out.cell (World.block_lt_of_cell? w _ hw465_0)).trans hw465_0), ((HB.out.cell (World.block_lt_of_cell? w _ hw470_0)).trans hw470_0)⟩ (fun hHeld => ?_)
                      clear hK K
                      refine norm_ (a' := ?_) ?_ ?_
                      rotate_left
                      ·show Act.put _ (some 134) _ = _
                       simp only [Act.put, sA_, sB_, sC_, i64_w, i32_w]
                       rfl
                      refine one_ (i := 31) (N := some 135) L7_32 rfl rfl (one_of HT_.out (by kernel_rfl)) (by decide) (fun K hK => ?_)
                      refine goes_ Try.func23 (by kernel_rfl) rfl #[.slice Ao80 t460.length co80, .slice Ao88 y471.length co88] (by rfl) rfl rfl (by (try simp only [List.map_toArray, List.map_cons, List.map_nil]); first | done | rfl | (simp only [List.length_drop, List.length_take]; rfl)) ?_
                      with_reducible refine (fullerref02_Same.calls kj30 _ _ t460 _ _ y471 false _ ?side1 ?side2 ?side3 ?side4 A47.out).mono ?_
                      (case side1 => repeat (first | exact (Kd.R_reads' HO462.out).2.2 | (with_reducible refine Kd.C_alloc ?_ _) | (with_reducible refine Kd.C_drewN ?_ _) | (with_reducible refine Kd.C_drew ?_)))
                      (case side2 => exact (Kd.R_reads' HO462.out).2.1)
                      (case side3 => repeat (first | exact (Kd.R_reads' HO473.out).2.2 | (with_reducible refine Kd.C_alloc ?_ _) | (with_reducible refine Kd.C_drewN ?_ _) | (with_reducible refine Kd.C_drew ?_)))
                      (case side4 => exact (Kd.R_reads' HO473.out).2.1)
                      rintro e w' ⟨rfl, ⟨nd, rfl⟩⟩
                      refine ⟨_, rfl, ?_⟩
                      refine hK.out _ _ ⟨(blk_cell BK456.out 0).trans rfl, (blk_cell BK456.out 1).trans rfl, (blk_cell BK464.out 0).trans rfl, (blk_cell BK464.out 1).trans rfl, ((HB.out.cell (World.block_lt_of_cell? w _ hw465_0)).trans hw465_0), ((HB.out.cell (World.block_lt_of_cell? w _ hw470_0)).trans hw470_0)⟩ (fun hHeld => ?_)
                      clear hK K
                      refine norm_ (a' := ?_) ?_ ?_
                      rotate_left
                      ·show Act.put _ (some 135) _ = _
                       simp only [Act.put, sA_, sB_, sC_, i64_w, i32_w]
                       rfl
                      refine pure_ (i := 32) (N := some 136) (v := ?_) (a' := ?_) L7_33 rfl rfl (any_of HT_.out (by kernel_rfl)) (fun _ _ _ h => h) (Or.inl ⟨by rfl, ?_⟩) ?_ ?_
                      rotate_left
                      ·intro w'
                       go_simp
                       with_reducible rfl
                      rotate_left
                      ·simp only [Act.put, sA_, sB_, sC_, i64_w, i32_w]
                       rfl
                      refine pure_ (i := 33) (N := some 137) (v := ?_) (a' := ?_) L7_34 rfl rfl (any_of HT_.out (by kernel_rfl)) (fun _ _ _ h => h) (Or.inl ⟨by rfl, ?_⟩) ?_ ?_
                      rotate_left
                      ·intro w'
                       go_simp
                       with_reducible rfl
                      rotate_left
                      ·simp only [Act.put, sA_, sB_, sC_, i64_w, i32_w]
                       rfl
                      refine pure_ (i := 34) (N := some 138) (v := ?_) (a' := ?_) L7_35 rfl rfl (any_of HT_.out (by kernel_rfl)) (fun _ _ _ h => h) (Or.inl ⟨by rfl, ?_⟩) ?_ ?_
                      rotate_left
                      ·intro w'
                       go_simp
                       with_reducible rfl
                      rotate_left
                      ·simp only [Act.put, sA_, sB_, sC_, i64_w, i32_w]
                       rfl
                      refine done_ (done_of HT_.out (by kernel_rfl)) ?_
                      try go_wp2
                      go_ret
                      exact ⟨by first | rfl | (simp [errW_none, errW_some] <;> rfl) | (simp only [← hji44]; first | rfl | (simp [errW_none, errW_some] <;> rfl)) | (simp [*, errW_none, errW_some] <;> rfl), by repeat (first | (with_reducible first | exact HB.out | apply below_alloc | apply pw_below_drewN | apply below_drew1 | refine below_set ?_ GE456.out | refine below_set ?_ GE464.out) | exact HB.out)⟩
                    ·rw [if_neg c46] at H
                     exact absurd H (by simp)
                   ·rw [if_neg c45] at H
                    exact absurd H (by simp)
                  ·rw [if_neg c43] at H
                   have c43b0 : decide (0 < x11_3) = false := decide_eq_false c43
                   (try (simp only [gt_iff_lt, ge_iff_le, c43b0] at c42b0)); (try simp at c42b0)
                   clear c43
                   have H' := Aside0.mk H
                   clear H
                   have p448 : 0 ≤ (x11_3 : Int) := of_decide_eq_true (by first | (with_reducible assumption) | assumption)
                   have q448 : x11_3 < (l1.length : Int) := of_decide_eq_true (by first | (with_reducible assumption) | assumption)
                   obtain ⟨ad448, e448, hx448_0⟩ := Kd.at_int HR1.out x11_3 p448 q448
                   cases e448
                   replace hx448_0 := (HB.out.cell (World.block_lt_of_cell? w _ hx448_0)).trans hx448_0
                   replace p448 := eq_true p448
                   replace q448 := eq_true q448
                   obtain ⟨Ao89, co89, eo89⟩ := Kd.V_slice HO_6.out
                   subst eo89
                   try go_wp2_with (first | ((with_reducible refine gate_callee (f := 11) rfl ?_); refine goesL_ (some 94) rfl rfl Try.func11 (by kernel_rfl) rfl #[.slice Ao89 x6_2.length co89, .int .i64 (wrap64 ((wrap64 (x7_3 + 1)) + (wrap64 (rd l1 x11_3))))] rfl (by (try simp only [List.map_toArray, List.map_cons, List.map_nil]); first | done | rfl | (simp only [List.length_drop, List.length_take]; rfl)) ?_; (with_reducible refine (chain_Read.calls kj30 _ _ x6_2 (wrap64 ((wrap64 (x7_3 + 1)) + (wrap64 (rd l1 x11_3)))) t449 t452 true _ ?side1 ?side2 A36.out).mono ?_); (case side1 => repeat (first | exact (Kd.V_reads' HO_6.out).2.2 | (with_reducible refine Kd.C_alloc ?_ _) | (with_reducible refine Kd.C_drewN ?_ _) | (with_reducible refine Kd.C_drew ?_))); (case side2 => exact (Kd.V_reads' HO_6.out).2.1); rintro e w90 ⟨v450, v453, rfl, ho0, ho1, hb⟩; refine ⟨_, rfl, ?_⟩; have n0_ := Aside0.mk (Kd.V_mono (Kd.V_told (Kd.V_told (Kd.V_old (mvV_ HO_6.out) hb) (Kd.R_base ho0)) (Kd.R_base ho1)) (fun _ h_ => h_.1)); have n1_ := Aside0.mk (Kd.R_lower ho0 (below_size (bq0_ HB.out))); have n2_ := Aside0.mk (Kd.R_lower ho1 (below_size (bq0_ HB.out))); have n3_ := Aside0.mk (below_step (bq0_ HB.out) hb); clear HO_6; clear HB; have HO_6 := n0_; have HO451 := n1_; have HO454 := n2_; have HB := n3_; clear n0_ n1_ n2_ n3_; (try clear hb); (try clear hb2); (try clear hk); (try clear hi); (try clear ho0); (try clear ho1)) | ((with_reducible refine gate_dst (N := 12) rfl ?_); (try (refine gate_guard (by rfl) ?_; dsimp only)); refine box_event ?hg (N := 12) ?hd (cs := #[.slice none 0 0, .slice none 0 0]) (t := 25) ?hr ?_; (case hd => rfl); (case hg => rfl); (case hr => first | (go_simp; done) | (go_simp; rfl)); intro gb456 hg w91 hbox hb; have n0_ := Aside0.mk (Kd.V_below (Kd.V_elderB (mvV_ HO_6.out) gb456 (Nat.le_of_eq hg.symm)) hb); have n1_ := Aside0.mk (Kd.R_below (mvR_ HO451.out) hb); have n2_ := Aside0.mk (Kd.R_below (mvR_ HO454.out) hb); have n3_ := Aside0.mk (below_step (bq0_ HB.out) hb); have n4_ := Aside0.mk (hbox); have n5_ := Aside0.mk ((by rw [hg]; exact (below_size (bq0_ HB.out)) : w.heap.size ≤ gb456)); have n6_ := Aside0.mk ((by rw [hg]; exact (below_size (bq0_ HB.out)) : w.heap.size ≤ gb456)); clear HO_6; clear HO451; clear HO454; clear HB; have HO_6 := n0_; have HO451 := n1_; have HO454 := n2_; have HB := n3_; have BK456 := n4_; have GW456 := n5_; have GE456 := n6_; clear n0_ n1_ n2_ n3_ n4_ n5_ n6_; clear hb hbox hg; obtain ⟨Ao92, co92, eo92⟩ := Kd.R_slice HO451.out; subst eo92; have hcz93_0 : w91.cell? ⟨gb456, 0, none⟩ = some (.slice none 0 0) := (blk_cell BK456.out 0).trans rfl; have hcz93_1 : w91.cell? ⟨gb456, 1, none⟩ = some (.slice none 0 0) := (blk_cell BK456.out 1).trans rfl; have hfz93_0 := blk_frozen BK456.out 0; have hfz93_1 := blk_frozen BK456.out 1; obtain ⟨Ao94, co94, eo94⟩ := Kd.R_slice HO454.out; subst eo94) | ((with_reducible refine gate_callee (f := 11) rfl ?_); refine goesL_ (some 101) rfl rfl Try.func11 (by kernel_rfl) rfl #[.slice Ao89 x6_2.length co89, .int .i64 (wrap64 ((wrap64 ((wrap64 (x7_3 + 1)) + (wrap64 (rd l1 x11_3)))) - 1))] rfl (by (try simp only [List.map_toArray, List.map_cons, List.map_nil]); first | done | rfl | (simp only [List.length_drop, List.length_take]; rfl)) ?_; (with_reducible refine (chain_Read.calls kj30 _ _ x6_2 (wrap64 ((wrap64 ((wrap64 (x7_3 + 1)) + (wrap64 (rd l1 x11_3)))) - 1)) t457 t460 t463 _ ?side1 ?side2 A37.out).mono ?_); (case side1 => refine (Kd.V_reads' (e := 41) (base := w.heap.size) (ok := fun k_ => (((True ∧ some k_ ≠ (.slice Ao92 t449.length co92 : Value).ownBlock) ∧ some k_ ≠ (.slice Ao94 t452.length co94 : Value).ownBlock) ∧ k_ ≠ gb456)) (n := x6_2.length) (c := co89) ?_).2.2; exact (by (with_reducible repeat (first | apply Kd.V_alloc | apply Kd.V_drewN | apply Kd.V_drew)); exact (Kd.V_mono (Kd.V_far (p := ⟨gb456, 1, none⟩) (Kd.V_far (p := ⟨gb456, 0, none⟩) (Kd.V_mono HO_6.out (fun k_ hk => (⟨hk, hk.2⟩ : _ ∧ k_ ≠ gb456))) (fun _ hk => hk.2) (.slice Ao92 t449.length co92)) (fun _ hk => hk.2) (.slice Ao94 t452.length co94)) (fun _ h_ => h_.1)))); (case side2 => exact (Kd.V_reads' HO_6.out).2.1); rintro e w95 ⟨v458, v461, rfl, ho0, ho1, hb⟩; refine ⟨_, rfl, ?_⟩; have n0_ := Aside0.mk (Kd.V_mono (Kd.V_told (Kd.V_told (Kd.V_old (by (with_reducible repeat (first | apply Kd.V_alloc | apply Kd.V_drewN | apply Kd.V_drew)); exact (Kd.V_mono (Kd.V_far (p := ⟨gb456, 1, none⟩) (Kd.V_far (p := ⟨gb456, 0, none⟩) (Kd.V_mono HO_6.out (fun k_ hk => (⟨hk, hk.2⟩ : _ ∧ k_ ≠ gb456))) (fun _ hk => hk.2) (.slice Ao92 t449.length co92)) (fun _ hk => hk.2) (.slice Ao94 t452.length co94)) (fun _ h_ => h_.1))) hb) (Kd.R_base ho0)) (Kd.R_base ho1)) (fun _ h_ => h_.1)); have n1_ := Aside0.mk (Kd.R_mono (Kd.R_told (Kd.R_told (Kd.R_old (by (with_reducible repeat (first | apply Kd.R_alloc | apply Kd.R_drewN | apply Kd.R_drew)); exact (Kd.R_mono (Kd.R_far (p := ⟨gb456, 1, none⟩) (Kd.R_far (p := ⟨gb456, 0, none⟩) (Kd.R_types HO451.out BK456.out (by decide)) (fun _ hk => hk.2) (.slice Ao92 t449.length co92)) (fun _ hk => hk.2) (.slice Ao94 t452.length co94)) (fun _ h_ => h_.1))) hb) (Kd.R_base ho0)) (Kd.R_base ho1)) (fun _ h_ => h_.1)); have n2_ := Aside0.mk (Kd.R_mono (Kd.R_told (Kd.R_told (Kd.R_old (by (with_reducible repeat (first | apply Kd.R_alloc | apply Kd.R_drewN | apply Kd.R_drew)); exact (Kd.R_mono (Kd.R_far (p := ⟨gb456, 1, none⟩) (Kd.R_far (p := ⟨gb456, 0, none⟩) (Kd.R_types HO454.out BK456.out (by decide)) (fun _ hk => hk.2) (.slice Ao92 t449.length co92)) (fun _ hk => hk.2) (.slice Ao94 t452.length co94)) (fun _ h_ => h_.1))) hb) (Kd.R_base ho0)) (Kd.R_base ho1)) (fun _ h_ => h_.1)); have n3_ := Aside0.mk (Kd.R_lower (Kd.R_new' (Kd.R_new' ho0 (Kd.R_lt (by (with_reducible repeat (first | apply Kd.R_alloc | apply Kd.R_drewN | apply Kd.R_drew)); exact (Kd.R_mono (Kd.R_far (p := ⟨gb456, 1, none⟩) (Kd.R_far (p := ⟨gb456, 0, none⟩) (Kd.R_types HO451.out BK456.out (by decide)) (fun _ hk => hk.2) (.slice Ao92 t449.length co92)) (fun _ hk => hk.2) (.slice Ao94 t452.length co94)) (fun _ h_ => h_.1))))) (Kd.R_lt (by (with_reducible repeat (first | apply Kd.R_alloc | apply Kd.R_drewN | apply Kd.R_drew)); exact (Kd.R_mono (Kd.R_far (p := ⟨gb456, 1, none⟩) (Kd.R_far (p := ⟨gb456, 0, none⟩) (Kd.R_types HO454.out BK456.out (by decide)) (fun _ hk => hk.2) (.slice Ao92 t449.length co92)) (fun _ hk => hk.2) (.slice Ao94 t452.length co94)) (fun _ h_ => h_.1))))) (below_size (bq1_ HB.out GE456.out))); have n4_ := Aside0.mk (Kd.R_lower (Kd.R_new' (Kd.R_new' ho1 (Kd.R_lt (by (with_reducible repeat (first | apply Kd.R_alloc | apply Kd.R_drewN | apply Kd.R_drew)); exact (Kd.R_mono (Kd.R_far (p := ⟨gb456, 1, none⟩) (Kd.R_far (p := ⟨gb456, 0, none⟩) (Kd.R_types HO451.out BK456.out (by decide)) (fun _ hk => hk.2) (.slice Ao92 t449.length co92)) (fun _ hk => hk.2) (.slice Ao94 t452.length co94)) (fun _ h_ => h_.1))))) (Kd.R_lt (by (with_reducible repeat (first | apply Kd.R_alloc | apply Kd.R_drewN | apply Kd.R_drew)); exact (Kd.R_mono (Kd.R_far (p := ⟨gb456, 1, none⟩) (Kd.R_far (p := ⟨gb456, 0, none⟩) (Kd.R_types HO454.out BK456.out (by decide)) (fun _ hk => hk.2) (.slice Ao92 t449.length co92)) (fun _ hk => hk.2) (.slice Ao94 t452.length co94)) (fun _ h_ => h_.1))))) (below_size (bq1_ HB.out GE456.out))); have n5_ := Aside0.mk (blk_below (g := gb456) (o := .cells #[.slice Ao92 t449.length co92, .slice Ao94 t452.length co94] 25 (0, 0)) (by (with_reducible repeat (first | refine blk_drewN ?_ _ | refine blk_drew ?_ | refine blk_alloc ?_ _)); refine blk_put (cs := #[.slice Ao92 t449.length co92, .slice none 0 0]) ?_ 1 _ rfl; (with_reducible repeat (first | refine blk_drewN ?_ _ | refine blk_drew ?_ | refine blk_alloc ?_ _)); refine blk_put (cs := #[.slice none 0 0, .slice none 0 0]) ?_ 0 _ rfl; (with_reducible repeat (first | refine blk_drewN ?_ _ | refine blk_drew ?_ | refine blk_alloc ?_ _)); exact BK456.out) hb); have n6_ := Aside0.mk (below_step (bq1_ HB.out GE456.out) hb); clear HO_6; clear HO451; clear HO454; clear BK456; clear HB; have HO_6 := n0_; have HO451 := n1_; have HO454 := n2_; have HO459 := n3_; have HO462 := n4_; have BK456 := n5_; have HB := n6_; clear n0_ n1_ n2_ n3_ n4_ n5_ n6_; (try clear hb); (try clear hb2); (try clear hk); (try clear hi); (try clear ho0); (try clear ho1)) | ((with_reducible refine gate_dst (N := 14) rfl ?_); (try (refine gate_guard (by rfl) ?_; dsimp only)); refine box_event ?hg (N := 14) ?hd (cs := #[.slice none 0 0, .slice none 0 0]) (t := 25) ?hr ?_; (case hd => rfl); (case hg => rfl); (case hr => first | (go_simp; done) | (go_simp; rfl)); intro gb464 hg w96 hbox hb; have n0_ := Aside0.mk (Kd.V_below (Kd.V_elderB (mvV_ HO_6.out) gb464 (Nat.le_of_eq hg.symm)) hb); have n1_ := Aside0.mk (Kd.R_below (mvR_ HO451.out) hb); have n2_ := Aside0.mk (Kd.R_below (mvR_ HO454.out) hb); have n3_ := Aside0.mk (Kd.R_below (mvR_ HO459.out) hb); have n4_ := Aside0.mk (Kd.R_below (mvR_ HO462.out) hb); have n5_ := Aside0.mk (blk_below (g := gb456) (o := .cells #[.slice Ao92 t449.length co92, .slice Ao94 t452.length co94] 25 (0, 0)) (mvK_ BK456.out) hb); have n6_ := Aside0.mk (below_step (bq1_ HB.out GE456.out) hb); have n7_ := Aside0.mk (hbox); have n8_ := Aside0.mk ((by rw [hg]; exact (below_size (bq1_ HB.out GE456.out)) : w.heap.size ≤ gb464)); have n9_ := Aside0.mk ((by rw [hg]; exact (below_size (bq1_ HB.out GE456.out)) : w.heap.size ≤ gb464)); have n10_ := Aside0.mk ((by rw [hg]; exact Nat.ne_of_lt (blk_lt (g := gb456) (o := .cells #[.slice Ao92 t449.length co92, .slice Ao94 t452.length co94] 25 (0, 0)) (mvK_ BK456.out)) : gb456 ≠ gb464)); have n11_ := Aside0.mk ((by rw [hg]; exact Nat.ne_of_gt (blk_lt (g := gb456) (o := .cells #[.slice Ao92 t449.length co92, .slice Ao94 t452.length co94] 25 (0, 0)) (mvK_ BK456.out)) : gb464 ≠ gb456)); clear HO_6; clear HO451; clear HO454; clear HO459; clear HO462; clear BK456; clear HB; have HO_6 := n0_; have HO451 := n1_; have HO454 := n2_; have HO459 := n3_; have HO462 := n4_; have BK456 := n5_; have HB := n6_; have BK464 := n7_; have GW464 := n8_; have GE464 := n9_; have NB456_464 := n10_; have NB464_456 := n11_; clear n0_ n1_ n2_ n3_ n4_ n5_ n6_ n7_ n8_ n9_ n10_ n11_; clear hb hbox hg; obtain ⟨Ao97, co97, eo97⟩ := Kd.R_slice HO459.out; subst eo97; have hnb98 := NB464_456.out; have hnc98 := NB456_464.out; have hcz99_0 : w96.cell? ⟨gb464, 0, none⟩ = some (.slice none 0 0) := (blk_cell BK464.out 0).trans rfl; have hcz99_1 : w96.cell? ⟨gb464, 1, none⟩ = some (.slice none 0 0) := (blk_cell BK464.out 1).trans rfl; have hfz99_0 := blk_frozen BK464.out 0; have hfz99_1 := blk_frozen BK464.out 1; obtain ⟨Ao100, co100, eo100⟩ := Kd.R_slice HO462.out; subst eo100))
                   have n0_ : Aside0 (Kd.V k41 41 ((w96.setCell ⟨gb464, 0, none⟩ (.slice Ao97 t457.length co97)).setCell ⟨gb464, 1, none⟩ (.slice Ao100 t460.length co100)) w.heap.size (fun k_ => some k_ ≠ (.slice Ao92 t449.length co92 : Value).ownBlock ∧ some k_ ≠ (.slice Ao94 t452.length co94 : Value).ownBlock ∧ some k_ ≠ (.slice Ao97 t457.length co97 : Value).ownBlock ∧ some k_ ≠ (.slice Ao100 t460.length co100 : Value).ownBlock ∧ k_ ≠ gb456 ∧ k_ ≠ gb464) (.slice Ao89 x6_2.length co89) x6_2) := ⟨by (with_reducible repeat (first | apply Kd.V_alloc | apply Kd.V_drewN | apply Kd.V_drew)); exact Kd.V_mono (Kd.V_far (p := ⟨gb464, 1, none⟩) (Kd.V_far (p := ⟨gb464, 0, none⟩) (Kd.V_mono HO_6.out (fun k_ hk => (⟨hk, hk.2⟩ : _ ∧ k_ ≠ gb464))) (fun _ hk => hk.2) (.slice Ao97 t457.length co97)) (fun _ hk => hk.2) (.slice Ao100 t460.length co100)) (fun _ hk => ⟨hk.1.1.1.1.1.1.2, ⟨hk.1.1.1.1.1.2, ⟨hk.1.1.1.2, ⟨hk.1.1.2, ⟨hk.1.1.1.1.2, hk.1.2⟩⟩⟩⟩⟩)⟩
                   have n1_ : Aside0 (Kd.R (Kd.int .i64) 3 ((w96.setCell ⟨gb464, 0, none⟩ (.slice Ao97 t457.length co97)).setCell ⟨gb464, 1, none⟩ (.slice Ao100 t460.length co100)) w.heap.size (fun k_ => some k_ ≠ (.slice Ao94 t452.length co94 : Value).ownBlock ∧ some k_ ≠ (.slice Ao97 t457.length co97 : Value).ownBlock ∧ some k_ ≠ (.slice Ao100 t460.length co100 : Value).ownBlock) (.slice Ao92 t449.length co92) t449) := ⟨by (with_reducible repeat (first | apply Kd.R_alloc | apply Kd.R_drewN | apply Kd.R_drew)); exact Kd.R_mono (Kd.R_far (p := ⟨gb464, 1, none⟩) (Kd.R_far (p := ⟨gb464, 0, none⟩) (Kd.R_types HO451.out BK464.out (by decide)) (fun _ hk => hk.2) (.slice Ao97 t457.length co97)) (fun _ hk => hk.2) (.slice Ao100 t460.length co100)) (fun _ hk => ⟨hk.1.1.1, ⟨hk.1.1.2, hk.1.2⟩⟩)⟩
                   have n2_ : Aside0 (Kd.R (Kd.int .i64) 3 ((w96.setCell ⟨gb464, 0, none⟩ (.slice Ao97 t457.length co97)).setCell ⟨gb464, 1, none⟩ (.slice Ao100 t460.length co100)) w.heap.size (fun k_ => some k_ ≠ (.slice Ao92 t449.length co92 : Value).ownBlock ∧ some k_ ≠ (.slice Ao97 t457.length co97 : Value).ownBlock ∧ some k_ ≠ (.slice Ao100 t460.length co100 : Value).ownBlock) (.slice Ao94 t452.length co94) t452) := ⟨by (with_reducible repeat (first | apply Kd.R_alloc | apply Kd.R_drewN | apply Kd.R_drew)); exact Kd.R_mono (Kd.R_far (p := ⟨gb464, 1, none⟩) (Kd.R_far (p := ⟨gb464, 0, none⟩) (Kd.R_types HO454.out BK464.out (by decide)) (fun _ hk => hk.2) (.slice Ao97 t457.length co97)) (fun _ hk => hk.2) (.slice Ao100 t460.length co100)) (fun _ hk => ⟨hk.1.1.1, ⟨hk.1.1.2, hk.1.2⟩⟩)⟩
                   have n3_ : Aside0 (Kd.R (Kd.int .i64) 3 ((w96.setCell ⟨gb464, 0, none⟩ (.slice Ao97 t457.length co97)).setCell ⟨gb464, 1, none⟩ (.slice Ao100 t460.length co100)) w.heap.size (fun k_ => some k_ ≠ (.slice Ao92 t449.length co92 : Value).ownBlock ∧ some k_ ≠ (.slice Ao94 t452.length co94 : Value).ownBlock ∧ some k_ ≠ (.slice Ao100 t460.length co100 : Value).ownBlock) (.slice Ao97 t457.length co97) t457) := ⟨by (with_reducible repeat (first | apply Kd.R_alloc | apply Kd.R_drewN | apply Kd.R_drew)); exact Kd.R_mono (Kd.R_far (p := ⟨gb464, 1, none⟩) (Kd.R_far (p := ⟨gb464, 0, none⟩) (Kd.R_types HO459.out BK464.out (by decide)) (fun _ hk => hk.2) (.slice Ao97 t457.length co97)) (fun _ hk => hk.2) (.slice Ao100 t460.length co100)) (fun _ hk => ⟨hk.1.1.2, ⟨hk.1.2, hk.1.1.1⟩⟩)⟩
                   have n4_ : Aside0 (Kd.R (Kd.int .i64) 3 ((w96.setCell ⟨gb464, 0, none⟩ (.slice Ao97 t457.length co97)).setCell ⟨gb464, 1, none⟩ (.slice Ao100 t460.length co100)) w.heap.size (fun k_ => some k_ ≠ (.slice Ao92 t449.length co92 : Value).ownBlock ∧ some k_ ≠ (.slice Ao94 t452.length co94 : Value).ownBlock ∧ some k_ ≠ (.slice Ao97 t457.length co97 : Value).ownBlock) (.slice Ao100 t460.length co100) t460) := ⟨by (with_reducible repeat (first | apply Kd.R_alloc | apply Kd.R_drewN | apply Kd.R_drew)); exact Kd.R_mono (Kd.R_far (p := ⟨gb464, 1, none⟩) (Kd.R_far (p := ⟨gb464, 0, none⟩) (Kd.R_types HO462.out BK464.out (by decide)) (fun _ hk => hk.2) (.slice Ao97 t457.length co97)) (fun _ hk => hk.2) (.slice Ao100 t460.length co100)) (fun _ hk => ⟨hk.1.1.2, ⟨hk.1.2, hk.1.1.1⟩⟩)⟩
                   have n5_ : Aside0 (((w96.setCell ⟨gb464, 0, none⟩ (.slice Ao97 t457.length co97)).setCell ⟨gb464, 1, none⟩ (.slice Ao100 t460.length co100)).heap[gb456]? = some (.cells #[.slice Ao92 t449.length co92, .slice Ao94 t452.length co94] 25 (0, 0))) := ⟨by (with_reducible repeat (first | refine blk_drewN ?_ _ | refine blk_drew ?_ | refine blk_alloc ?_ _)); refine blk_far ?_ NB456_464.out _; (with_reducible repeat (first | refine blk_drewN ?_ _ | refine blk_drew ?_ | refine blk_alloc ?_ _)); refine blk_far ?_ NB456_464.out _; (with_reducible repeat (first | refine blk_drewN ?_ _ | refine blk_drew ?_ | refine blk_alloc ?_ _)); exact BK456.out⟩
                   have n6_ : Aside0 (((w96.setCell ⟨gb464, 0, none⟩ (.slice Ao97 t457.length co97)).setCell ⟨gb464, 1, none⟩ (.slice Ao100 t460.length co100)).heap[gb464]? = some (.cells #[.slice Ao97 t457.length co97, .slice Ao100 t460.length co100] 25 (0, 0))) := ⟨by (with_reducible repeat (first | refine blk_drewN ?_ _ | refine blk_drew ?_ | refine blk_alloc ?_ _)); refine blk_put (cs := #[.slice Ao97 t457.length co97, .slice none 0 0]) ?_ 1 _ rfl; (with_reducible repeat (first | refine blk_drewN ?_ _ | refine blk_drew ?_ | refine blk_alloc ?_ _)); refine blk_put (cs := #[.slice none 0 0, .slice none 0 0]) ?_ 0 _ rfl; (with_reducible repeat (first | refine blk_drewN ?_ _ | refine blk_drew ?_ | refine blk_alloc ?_ _)); exact BK464.out⟩
                   have n7_ : Aside0 (Below w.heap.size w ((w96.setCell ⟨gb464, 0, none⟩ (.slice Ao97 t457.length co97)).setCell ⟨gb464, 1, none⟩ (.slice Ao100 t460.length co100))) := ⟨by repeat (first | (with_reducible first | exact HB.out | apply below_alloc | apply pw_below_drewN | apply below_drew1 | refine below_set ?_ GE456.out | refine below_set ?_ GE464.out) | exact HB.out)⟩
                   (try clear HO_6)
                   (try clear HO451)
                   (try clear HO454)
                   (try clear HO459)
                   (try clear HO462)
                   (try clear BK456)
                   (try clear BK464)
                   (try clear HB)
                   generalize ((w96.setCell ⟨gb464, 0, none⟩ (.slice Ao97 t457.length co97)).setCell ⟨gb464, 1, none⟩ (.slice Ao100 t460.length co100)) = w101 at n0_ n1_ n2_ n3_ n4_ n5_ n6_ n7_ ⊢
                   have HO_6 := n0_
                   have HO451 := n1_
                   have HO454 := n2_
                   have HO459 := n3_
                   have HO462 := n4_
                   have BK456 := n5_
                   have BK464 := n6_
                   have HB := n7_
                   clear n0_ n1_ n2_ n3_ n4_ n5_ n6_ n7_
                   have n0_ := Aside0.mk (Kd.V_drew HO_6.out)
                   have n1_ := Aside0.mk (Kd.R_drew HO451.out)
                   have n2_ := Aside0.mk (Kd.R_drew HO454.out)
                   have n3_ := Aside0.mk (Kd.R_drew HO459.out)
                   have n4_ := Aside0.mk (Kd.R_drew HO462.out)
                   have n5_ := Aside0.mk (blk_drew BK456.out)
                   have n6_ := Aside0.mk (blk_drew BK464.out)
                   have n7_ := Aside0.mk (below_drew1 HB.out)
                   clear HO_6 HO451 HO454 HO459 HO462 BK456 BK464 HB
                   have HO_6 := n0_
                   have HO451 := n1_
                   have HO454 := n2_
                   have HO459 := n3_
                   have HO462 := n4_
                   have BK456 := n5_
                   have BK464 := n6_
                   have HB := n7_
                   clear n0_ n1_ n2_ n3_ n4_ n5_ n6_ n7_
                   have p465 : 0 ≤ (x11_3 : Int) := of_decide_eq_true (by first | (with_reducible assumption) | assumption)
                   have q465 : x11_3 < (l0.length : Int) := of_decide_eq_true (by first | (with_reducible assumption) | assumption)
                   obtain ⟨ad465, e465, hx465_0⟩ := Kd.at_int HR0.out x11_3 p465 q465
                   have hw465_0 := hx465_0
                   cases e465
                   replace hx465_0 := (HB.out.cell (World.block_lt_of_cell? w _ hx465_0)).trans hx465_0
                   replace p465 := eq_true p465
                   replace q465 := eq_true q465
                   refine start_ (n := 35) (S := fun w' => w'.cell? ⟨gb456, 0, none⟩ = some (.slice Ao92 t449.length co92) ∧ w'.cell? ⟨gb456, 1, none⟩ = some (.slice Ao94 t452.length co94) ∧ w'.cell? (ad465.add (x11_3).toNat) = some (.int .i64 (rd l0 x11_3))) (ds := []) L7_0 (by kernel_rfl) rfl rfl ⟨(blk_cell BK456.out 0).trans rfl, (blk_cell BK456.out 1).trans rfl, ((HB.out.cell (World.block_lt_of_cell? w _ hw465_0)).trans hw465_0)⟩ (fun hHeld => ?_); refine with_tabW fullerlaw17_ChainMany.tab21 fullerlaw17_ChainMany.bits21 (fun HT_ HW_ => ?_)
                   generalize w101.drew = w102 at HO_6 HO451 HO454 HO459 HO462 BK456 BK464 HB hx465_0 hHeld ⊢
                   refine pure_ (i := 0) (N := some 104) (v := ?_) (a' := ?_) L7_1 rfl rfl (any_of HT_.out (by kernel_rfl)) (fun _ _ _ h => h) (Or.inl ⟨by rfl, ?_⟩) ?_ ?_
                   rotate_left
                   ·intro w'
                    go_simp
                    with_reducible rfl
                   rotate_left
                   ·simp only [Act.put, sA_, sB_, sC_, i64_w, i32_w]
                    rfl
                   refine pure_ (i := 1) (N := some 105) (v := ?_) (a' := ?_) L7_2 rfl rfl (any_of HT_.out (by kernel_rfl)) (fun _ _ _ h => h) (Or.inl ⟨by rfl, ?_⟩) ?_ ?_
                   rotate_left
                   ·intro w'
                    go_simp
                    with_reducible rfl
                   rotate_left
                   ·simp only [Act.put, sA_, sB_, sC_, i64_w, i32_w]
                    rfl
                   refine pure_ (i := 2) (N := some 106) (v := ?_) (a' := ?_) L7_3 rfl rfl (any_of HT_.out (by kernel_rfl)) (fun _ _ _ h => h) (Or.inl ⟨by rfl, ?_⟩) ?_ ?_
                   rotate_left
                   ·intro w'
                    go_simp
                    with_reducible rfl
                   rotate_left
                   ·simp only [Act.put, sA_, sB_, sC_, i64_w, i32_w]
                    rfl
                   refine pure_ (i := 3) (N := some 107) (v := ?_) (a' := ?_) L7_4 rfl rfl (any_of HT_.out (by kernel_rfl)) (fun _ _ _ h => h) (Or.inl ⟨by rfl, ?_⟩) ?_ ?_
                   rotate_left
                   ·intro w'
                    go_simp
                    with_reducible rfl
                   rotate_left
                   ·simp only [Act.put, sA_, sB_, sC_, i64_w, i32_w]
                    rfl
                   refine pure_ (i := 5) (N := some 109) (v := ?_) (a' := ?_) L7_5 rfl rfl (any_of HT_.out (by kernel_rfl)) (fun _ _ _ h => h) (Or.inl ⟨by rfl, ?_⟩) ?_ ?_
                   rotate_left
                   ·intro w'
                    go_simp
                    with_reducible rfl
                   rotate_left
                   ·simp only [Act.put, sA_, sB_, sC_, i64_w, i32_w]
                    rfl
                   refine pure_ (i := 6) (N := some 110) (v := ?_) (a' := ?_) L7_6 rfl rfl (any_of HT_.out (by kernel_rfl)) (fun _ _ _ h => h) (Or.inl ⟨by rfl, ?_⟩) ?_ ?_
                   rotate_left
                   ·intro w'
                    go_simp
                    with_reducible rfl
                   rotate_left
                   ·simp only [Act.put, sA_, sB_, sC_, i64_w, i32_w]
                    rfl
                   refine pure_ (i := 7) (N := some 111) (v := ?_) (a' := ?_) L7_7 rfl rfl (any_of HT_.out (by kernel_rfl)) (fun _ _ _ h => h) (Or.inl ⟨by rfl, ?_⟩) ?_ ?_
                   rotate_left
                   ·intro w'
                    go_simp
                    with_reducible rfl
                   rotate_left
                   ·simp only [Act.put, sA_, sB_, sC_, i64_w, i32_w]
                    rfl
                   refine take_ (i := 4) (N := some 108) (v := ?_) (a' := ?_) L7_8 rfl rfl (take_ofW HT_.out HW_.out (by kernel_rfl)) (fun _ _ _ h => h) (Or.inl ⟨by rfl, ?_⟩) hHeld ?_ ?_
                   rotate_left
                   ·rintro w' ⟨s0, s1, s2⟩
                    go_simp
                    with_reducible rfl
                   rotate_left
                   ·simp only [Act.put, sA_, sB_, sC_, i64_w, i32_w]
                    rfl
                   refine take_ (i := 8) (N := some 112) (v := ?_) (a' := ?_) L7_9 rfl rfl (take_ofW HT_.out HW_.out (by kernel_rfl)) (fun _ _ _ h => h) (Or.inl ⟨by rfl, ?_⟩) hHeld ?_ ?_
                   rotate_left
                   ·rintro w' ⟨s0, s1, s2⟩
                    go_simp
                    with_reducible rfl
                   rotate_left
                   ·simp only [Act.put, sA_, sB_, sC_, i64_w, i32_w]
                    rfl
                   refine one_ (i := 9) (N := some 113) L7_10 rfl rfl (one_of HT_.out (by kernel_rfl)) (by decide) (fun K hK => ?_)
                   refine Kd.R_lit_step (Kd.int .i64) _ 3 ?hg (N := 113) ?hd (xs := ([rd l0 x11_3] : List Int)) (inner := [.int .i64 (rd l0 x11_3)]) (ok := fun _ => True) (okp := fun _ => True) ?hr ?hp (fun _ hk => hk) trivial (Below.refl _ _) (Nat.le_refl _) (by simp) ?_; (case hd => rfl); (case hg => rfl); (case hr => first | (go_simp; done) | (go_simp; rfl)); (case hp => exact (Reps.one (show Kd.M (Kd.int .i64) _ _ _ (rd l0 x11_3) [.int .i64 (rd l0 x11_3)] from rfl) (Reps.none _ _)))
                   intro v467 w103 ho104 hb hg_ hnew_
                   clear hg_ hnew_
                   (first | rw [← Ny466.out] at ho104 | (simp only [Int.reduceToNat] at ho104; rw [← Ny466.out] at ho104))
                   have n0_ := Aside0.mk (Kd.V_elder' (mvV_ HO_6.out) (Kd.R_base ho104) hb)
                   have n1_ := Aside0.mk (Kd.R_elder' (mvR_ HO451.out) (Kd.R_base ho104) hb)
                   have n2_ := Aside0.mk (Kd.R_elder' (mvR_ HO454.out) (Kd.R_base ho104) hb)
                   have n3_ := Aside0.mk (Kd.R_elder' (mvR_ HO459.out) (Kd.R_base ho104) hb)
                   have n4_ := Aside0.mk (Kd.R_elder' (mvR_ HO462.out) (Kd.R_base ho104) hb)
                   have n5_ := Aside0.mk (Kd.R_lower (Kd.R_new' (Kd.R_new' (Kd.R_new' (Kd.R_new' ho104 (Kd.R_lt (mvR_ HO451.out))) (Kd.R_lt (mvR_ HO454.out))) (Kd.R_lt (mvR_ HO459.out))) (Kd.R_lt (mvR_ HO462.out))) (below_size (bq2_ HB.out GE456.out GE464.out)))
                   have n6_ := Aside0.mk (blk_below (g := gb456) (o := .cells #[.slice Ao92 t449.length co92, .slice Ao94 t452.length co94] 25 (0, 0)) (mvK_ BK456.out) hb)
                   have n7_ := Aside0.mk (blk_below (g := gb464) (o := .cells #[.slice Ao97 t457.length co97, .slice Ao100 t460.length co100] 25 (0, 0)) (mvK_ BK464.out) hb)
                   have n8_ := Aside0.mk (below_step (bq2_ HB.out GE456.out GE464.out) hb)
                   clear HO_6 HO451 HO454 HO459 HO462 BK456 BK464 HB
                   have HO_6 := n0_
                   have HO451 := n1_
                   have HO454 := n2_
                   have HO459 := n3_
                   have HO462 := n4_
                   have HO468 := n5_
                   have BK456 := n6_
                   have BK464 := n7_
                   have HB := n8_
                   clear n0_ n1_ n2_ n3_ n4_ n5_ n6_ n7_ n8_ hb ho104
                   obtain ⟨Ao105, co105, eo105⟩ := Kd.R_slice HO468.out
                   (first | subst eo105 | (injection eo105 with f1_ f2_ f3_; have f4_ := f1_.symm; have f5_ := f3_.symm; clear f1_ f2_ f3_; subst f4_; subst f5_))
                   refine hK.out _ _ ⟨(blk_cell BK456.out 0).trans rfl, (blk_cell BK456.out 1).trans rfl, ((HB.out.cell (World.block_lt_of_cell? w _ hw465_0)).trans hw465_0)⟩ (fun hHeld => ?_)
                   clear hK K
                   refine norm_ (a' := ?_) ?_ ?_
                   rotate_left
                   ·show Act.put _ (some 113) _ = _
                    simp only [Act.put, sA_, sB_, sC_, i64_w, i32_w]
                    rfl
                   refine one_ (i := 10) (N := some 114) L7_11 rfl rfl (one_of HT_.out (by kernel_rfl)) (by decide) (fun K hK => ?_)
                   refine goes_ Try.func23 (by kernel_rfl) rfl #[.slice Ao94 t452.length co94, .slice Ao105 y466.length co105] (by rfl) rfl rfl (by (try simp only [List.map_toArray, List.map_cons, List.map_nil]); first | done | rfl | (simp only [List.length_drop, List.length_take]; rfl)) ?_
                   with_reducible refine (fullerref02_Same.calls kj30 _ _ t452 _ _ y466 true _ ?side1 ?side2 ?side3 ?side4 A40.out).mono ?_
                   (case side1 => repeat (first | exact (Kd.R_reads' HO454.out).2.2 | (with_reducible refine Kd.C_alloc ?_ _) | (with_reducible refine Kd.C_drewN ?_ _) | (with_reducible refine Kd.C_drew ?_)))
                   (case side2 => exact (Kd.R_reads' HO454.out).2.1)
                   (case side3 => repeat (first | exact (Kd.R_reads' HO468.out).2.2 | (with_reducible refine Kd.C_alloc ?_ _) | (with_reducible refine Kd.C_drewN ?_ _) | (with_reducible refine Kd.C_drew ?_)))
                   (case side4 => exact (Kd.R_reads' HO468.out).2.1)
                   rintro e w' ⟨rfl, ⟨nd, rfl⟩⟩
                   refine ⟨_, rfl, ?_⟩
                   refine hK.out _ _ ⟨(blk_cell BK456.out 0).trans rfl, (blk_cell BK456.out 1).trans rfl, ((HB.out.cell (World.block_lt_of_cell? w _ hw465_0)).trans hw465_0)⟩ (fun hHeld => ?_)
                   clear hK K
                   refine norm_ (a' := ?_) ?_ ?_
                   rotate_left
                   ·show Act.put _ (some 114) _ = _
                    simp only [Act.put, sA_, sB_, sC_, i64_w, i32_w]
                    rfl
                   refine pure_ (i := 11) (N := some 115) (v := ?_) (a' := ?_) L7_12 rfl rfl (any_of HT_.out (by kernel_rfl)) (fun _ _ _ h => h) (Or.inl ⟨by rfl, ?_⟩) ?_ ?_
                   rotate_left
                   ·intro w'
                    go_simp
                    with_reducible rfl
                   rotate_left
                   ·simp only [Act.put, sA_, sB_, sC_, i64_w, i32_w]
                    rfl
                   refine pure_ (i := 12) (N := some 116) (v := ?_) (a' := ?_) L7_13 rfl rfl (any_of HT_.out (by kernel_rfl)) (fun _ _ _ h => h) (Or.inl ⟨by rfl, ?_⟩) ?_ ?_
                   rotate_left
                   ·intro w'
                    go_simp
                    with_reducible rfl
                   rotate_left
                   ·simp only [Act.put, sA_, sB_, sC_, i64_w, i32_w]
                    rfl
                   refine pure_ (i := 13) (N := some 117) (v := ?_) (a' := ?_) L7_14 rfl rfl (any_of HT_.out (by kernel_rfl)) (fun _ _ _ h => h) (Or.inl ⟨by rfl, ?_⟩) ?_ ?_
                   rotate_left
                   ·intro w'
                    go_simp
                    with_reducible rfl
                   rotate_left
                   ·simp only [Act.put, sA_, sB_, sC_, i64_w, i32_w]
                    rfl
                   refine pure_ (i := 14) (N := some 118) (v := ?_) (a' := ?_) L7_15 rfl rfl (any_of HT_.out (by kernel_rfl)) (fun _ _ _ h => h) (Or.inl ⟨by rfl, ?_⟩) ?_ ?_
                   rotate_left
                   ·intro w'
                    go_simp
                    with_reducible rfl
                   rotate_left
                   ·simp only [Act.put, sA_, sB_, sC_, i64_w, i32_w]
                    rfl
                   refine pure_ (i := 15) (N := some 119) (v := ?_) (a' := ?_) L7_16 rfl rfl (any_of HT_.out (by kernel_rfl)) (fun _ _ _ h => h) (Or.inl ⟨by rfl, ?_⟩) ?_ ?_
                   rotate_left
                   ·intro w'
                    go_simp
                    with_reducible rfl
                   rotate_left
                   ·simp only [Act.put, sA_, sB_, sC_, i64_w, i32_w]
                    rfl
                   refine pure_ (i := 16) (N := some 120) (v := ?_) (a' := ?_) L7_17 rfl rfl (any_of HT_.out (by kernel_rfl)) (fun _ _ _ h => h) (Or.inl ⟨by rfl, ?_⟩) ?_ ?_
                   rotate_left
                   ·intro w'
                    go_simp
                    with_reducible rfl
                   rotate_left
                   ·simp only [Act.put, sA_, sB_, sC_, i64_w, i32_w]
                    rfl
                   refine pure_ (i := 17) (N := some 121) (v := ?_) (a' := ?_) L7_18 rfl rfl (any_of HT_.out (by kernel_rfl)) (fun _ _ _ h => h) (Or.inl ⟨by rfl, ?_⟩) ?_ ?_
                   rotate_left
                   ·intro w'
                    go_simp
                    with_reducible rfl
                   rotate_left
                   ·simp only [Act.put, sA_, sB_, sC_, i64_w, i32_w]
                    rfl
                   refine pure_ (i := 18) (N := some 122) (v := ?_) (a' := ?_) L7_19 rfl rfl (any_of HT_.out (by kernel_rfl)) (fun _ _ _ h => h) (Or.inl ⟨by rfl, ?_⟩) ?_ ?_
                   rotate_left
                   ·intro w'
                    go_simp
                    with_reducible rfl
                   rotate_left
                   ·simp only [Act.put, sA_, sB_, sC_, i64_w, i32_w]
                    rfl
                   refine pure_ (i := 19) (N := some 123) (v := ?_) (a' := ?_) L7_20 rfl rfl (any_of HT_.out (by kernel_rfl)) (fun _ _ _ h => h) (Or.inl ⟨by rfl, ?_⟩) ?_ ?_
                   rotate_left
                   ·intro w'
                    go_simp
                    with_reducible rfl
                   rotate_left
                   ·simp only [Act.put, sA_, sB_, sC_, i64_w, i32_w]
                    rfl
                   refine pure_ (i := 20) (N := some 124) (v := ?_) (a' := ?_) L7_21 rfl rfl (any_of HT_.out (by kernel_rfl)) (fun _ _ _ h => h) (Or.inl ⟨by rfl, ?_⟩) ?_ ?_
                   rotate_left
                   ·intro w'
                    go_simp
                    with_reducible rfl
                   rotate_left
                   ·simp only [Act.put, sA_, sB_, sC_, i64_w, i32_w]
                    rfl
                   refine pure_ (i := 21) (N := some 125) (v := ?_) (a' := ?_) L7_22 rfl rfl (any_of HT_.out (by kernel_rfl)) (fun _ _ _ h => h) (Or.inl ⟨by rfl, ?_⟩) ?_ ?_
                   rotate_left
                   ·intro w'
                    go_simp
                    with_reducible rfl
                   rotate_left
                   ·simp only [Act.put, sA_, sB_, sC_, i64_w, i32_w]
                    rfl
                   refine pure_ (i := 22) (N := some 126) (v := ?_) (a' := ?_) L7_23 rfl rfl (any_of HT_.out (by kernel_rfl)) (fun _ _ _ h => h) (Or.inl ⟨by rfl, ?_⟩) ?_ ?_
                   rotate_left
                   ·intro w'
                    go_simp
                    with_reducible rfl
                   rotate_left
                   ·simp only [Act.put, sA_, sB_, sC_, i64_w, i32_w]
                    rfl
                   refine skips_ (fuel := 2) (m := 12) HT_.out (fun _ _ _ _ _ h => h) [(23, 127), (24, 128), (25, 129), (26, 130), (27, 131), (28, 132), (29, 133), (30, 134), (31, 135), (32, 136)] L7_33 rfl (by kernel_rfl) (by kernel_rfl) (a' := ?_) ?_ ?_
                   rotate_left
                   ·simp only [putU, Act.put, sA_, sB_, sC_]
                    rfl
                   refine pure_ (i := 33) (N := some 137) (v := ?_) (a' := ?_) L7_34 rfl rfl (any_of HT_.out (by kernel_rfl)) (fun _ _ _ h => h) (Or.inl ⟨by rfl, ?_⟩) ?_ ?_
                   rotate_left
                   ·intro w'
                    go_simp
                    with_reducible rfl
                   rotate_left
                   ·simp only [Act.put, sA_, sB_, sC_, i64_w, i32_w]
                    rfl
                   refine pure_ (i := 34) (N := some 138) (v := ?_) (a' := ?_) L7_35 rfl rfl (any_of HT_.out (by kernel_rfl)) (fun _ _ _ h => h) (Or.inl ⟨by rfl, ?_⟩) ?_ ?_
                   rotate_left
                   ·intro w'
                    go_simp
                    with_reducible rfl
                   rotate_left
                   ·simp only [Act.put, sA_, sB_, sC_, i64_w, i32_w]
                    rfl
                   refine done_ (done_of HT_.out (by kernel_rfl)) ?_
                   try go_wp2
                   go_roundg kj30
                   case measure => have := HJ3.out; have := HK2.out; have := HK3.out; have := HJ30.out; omega
                   case rel => exact ⟨(wrap64 ((wrap64 (x7_3 + 1)) + (wrap64 (rd l1 x11_3)))), (wrap64 (x11_3 + 1)), (by first | rfl | (simp; done) | (simp [*]; done)), (by first | rfl | (simp; done) | (simp [*]; done)), H', ⟨by have := HJ3.out; have := HK2.out; have := HK3.out; have := HJ30.out; omega⟩, ⟨by (with_reducible repeat (first | apply Kd.V_alloc | apply Kd.V_drewN | apply Kd.V_drew)); exact Kd.V_mono HO_6.out (fun _ hk => trivial)⟩, ⟨by repeat (first | (with_reducible first | exact HB.out | apply below_alloc | apply pw_below_drewN | apply below_drew1 | refine below_set ?_ GE456.out | refine below_set ?_ GE464.out) | exact HB.out)⟩⟩
                ·replace c41 := Bool.eq_false_iff.mpr c41
                 subst c41
                 have H1 : (none) = some r := by rw [if_neg (show ¬ (false = true) by decide)] at H; exact H
                 clear H
                 have H := H1
                 clear H1
                 exact absurd H (by simp)
               ·rw [if_neg c39] at H
                exact absurd H (by simp)
              ·replace c38 := Bool.eq_false_iff.mpr c38
               subst c38
               have H1 : (none) = some r := by rw [if_neg (show ¬ (false = true) by decide)] at H; exact H
               clear H
               have H := H1
               clear H1
               exact absurd H (by simp)
             ·rw [if_neg c35] at H
              exact absurd H (by simp)
            ·rw [if_neg c34] at H
             exact absurd H (by simp)
           ·replace c33 := Bool.eq_false_iff.mpr c33
            subst c33
            have H1 : (if t438 = true then (some ((x6_2.length : Int) == (mn (l0.length : Int) 16))) else (none)) = some r := by rw [if_neg (show ¬ (false = true) by decide)] at H; exact H
            clear H
            have H := H1
            clear H1
            by_cases c106 : t438 = true
            ·subst c106
             have H1 : (some ((x6_2.length : Int) == (mn (l0.length : Int) 16))) = some r := by rw [if_pos rfl] at H; exact H
             clear H
             have H := H1
             clear H1
             obtain ⟨ji107, hji107⟩ : ∃ j_ : Int, (mn (l0.length : Int) 16) = j_ := ⟨_, rfl⟩
             replace H : (some ((x6_2.length : Int) == (ji107))) = some r := by first | (rw [hji107] at H; exact H) | (simp only [hji107] at H ⊢; exact H)
             have hji107_ : (if 16 < (l0.length : Int) then 16 else (l0.length : Int)) = ji107 := hji107
             obtain rfl := Option.some.inj H
             obtain ⟨Ao108, co108, eo108⟩ := Kd.V_slice HO_6.out
             subst eo108
             go_wp2
             go_ret
             exact ⟨by first | rfl | (simp [errW_none, errW_some] <;> rfl) | (simp only [← hji107]; first | rfl | (simp [errW_none, errW_some] <;> rfl)) | (simp [*, errW_none, errW_some] <;> rfl), by repeat (first | (with_reducible first | exact HB.out | apply below_alloc | apply pw_below_drewN | apply below_drew1) | exact HB.out)⟩
            ·replace c106 := Bool.eq_false_iff.mpr c106
             subst c106
             have H1 : (none) = some r := by rw [if_neg (show ¬ (false = true) by decide)] at H; exact H
             clear H
             have H := H1
             clear H1
             exact absurd H (by simp)

/-- THE ONE PURE STATEMENT of fullerlaw17_ChainMany: yours. -/
def fullerlaw17_ChainMany.Pure : Prop := ∀ (l0 : List Int) (l1 : List Int), l0.length ≤ maxLen → l0.length * 8 ≤ 140737488351232 → (∀ x ∈ l0, (Lit.int .i64 x).wf = true) → l1.length ≤ maxLen → l1.length * 1 ≤ 140737488351232 → (∀ x ∈ l1, (Lit.int .u8 x).wf = true) → ∃ k, fullerlaw17_ChainMany.f k l0 l1 = some true
theorem fullerlaw17_ChainMany.walk (P : fullerlaw17_ChainMany.Pure) (a0 : Option Addr) (len0 cap0 : Nat) (z0 : List Int) (a1 : Option Addr) (len1 cap1 : Nat) (z1 : List Int) (w : World) (w0 : (a0 = none ∧ len0 = 0 ∧ cap0 = 0 ∧ z0 = []) ∨ ∃ x, a0 = some x ∧ len0 ≤ cap0 ∧ cap0 ≤ maxLen ∧ z0.length = cap0 ∧ (∀ i, i < z0.length → w.cell? (x.add i) = some (.int .i64 (z0.getD i 0))) ∧ ∀ n ∈ z0, (Lit.int .i64 n).wf = true) (y0 : len0 * 8 ≤ 140737488351232) (w1 : (a1 = none ∧ len1 = 0 ∧ cap1 = 0 ∧ z1 = []) ∨ ∃ x, a1 = some x ∧ len1 ≤ cap1 ∧ cap1 ≤ maxLen ∧ z1.length = cap1 ∧ (∀ i, i < z1.length → w.cell? (x.add i) = some (.int .u8 (z1.getD i 0))) ∧ ∀ n ∈ z1, (Lit.int .u8 n).wf = true) (y1 : len1 * 1 ≤ 140737488351232) :
  Calls Try.prog 7 #[.slice a0 len0 cap0, .slice a1 len1 cap1] w fun e w' => e = .returned (.bool true) ∧ Below w.heap.size w w' := by
 obtain ⟨l0, rfl, hr0, hm0, hw0, hc0⟩ := ReadsInt.ofRowC w0
 obtain ⟨l1, rfl, hr1, hm1, hw1, hc1⟩ := ReadsInt.ofRowC w1
 obtain ⟨k, h⟩ := P l0 l1 hm0 y0 hw0 hm1 y1 hw1
 refine (fullerlaw17_ChainMany.calls k _ _ l0 _ _ l1 true w (Kd.C_of_reads (d := (0 : Int)) (h1 := fun _ => rfl) hr0) hc0 (Kd.C_of_reads (d := (0 : Int)) (h1 := fun _ => rfl) hr1) hc1 h).mono ?_
 rintro e w' ⟨rfl, hd⟩
 exact ⟨rfl, hd⟩

end Go.Proofs.Ytdjlpbekoggmiaa.A
