/- Lean functions that answer as the Go functions do, and the proofs that they do; no conditions. Written by this session's own driver: a scratch copy of the kit's print with the session's additions (wip/xprint). -/
import Derived.Test.YtalmgghhpgfgoaaAx0
import Derived.Test.YtalmgghhpgfgoaaAx1
import Derived.Test.YtalmgghhpgfgoaaAx2
import Derived.Test.YtalmgghhpgfgoaaAx9
import Derived.Test.YtalmgghhpgfgoaaAx10
namespace Go.Proofs.Ytalmgghhpgfgoaa.A
open Go.RowKit Go.Proofs.YtalmgghhpgfgoaaW.PrintWords Go.Proofs.YtalmgghhpgfgoaaW.PrintLast Go.Proofs.YtalmgghhpgfgoaaW.PrintMore
attribute [local go_sem] max2_int min2_int max_two min_two max_three min_three max_four min_four   -- for this text's walks alone
set_option linter.unusedVariables false
set_option linter.unusedSimpArgs false

def L4_0 : Array Bool := #[false, false, false, false, false, false, false, false, false, false, false, false, false, false, false, false, false, false, false, false, false, false]
def L4_1 : Array Bool := #[true, false, false, false, false, false, false, false, false, false, false, false, false, false, false, false, false, false, false, false, false, false]
def L4_2 : Array Bool := #[true, true, false, false, false, false, false, false, false, false, false, false, false, false, false, false, false, false, false, false, false, false]
def L4_3 : Array Bool := #[true, true, true, false, false, false, false, false, false, false, false, false, false, false, false, false, false, false, false, false, false, false]
def L4_4 : Array Bool := #[true, true, true, true, false, false, false, false, false, false, false, false, false, false, false, false, false, false, false, false, false, false]
def L4_5 : Array Bool := #[true, true, true, true, true, false, false, false, false, false, false, false, false, false, false, false, false, false, false, false, false, false]
def L4_6 : Array Bool := #[true, true, true, true, true, true, false, false, false, false, false, false, false, false, false, false, false, false, false, false, false, false]
def L4_7 : Array Bool := #[true, true, true, true, true, true, true, false, false, false, false, false, false, false, false, false, false, false, false, false, false, false]
def L4_8 : Array Bool := #[true, true, true, true, true, true, true, true, false, false, false, false, false, false, false, false, false, false, false, false, false, false]
def L4_9 : Array Bool := #[true, true, true, true, true, true, true, true, true, false, false, false, false, false, false, false, false, false, false, false, false, false]
def L4_10 : Array Bool := #[true, true, true, true, true, true, true, true, true, true, false, false, false, false, false, false, false, false, false, false, false, false]
def L4_11 : Array Bool := #[true, true, true, true, true, true, true, true, true, true, true, false, false, false, false, false, false, false, false, false, false, false]
def L4_12 : Array Bool := #[true, true, true, true, true, true, true, true, true, true, true, true, false, false, false, false, false, false, false, false, false, false]
def L4_13 : Array Bool := #[true, true, true, true, true, true, true, true, true, true, true, true, true, false, false, false, false, false, false, false, false, false]
def L4_14 : Array Bool := #[true, true, true, true, true, true, true, true, true, true, true, true, true, false, true, false, false, false, false, false, false, false]
def L4_15 : Array Bool := #[true, true, true, true, true, true, true, true, true, true, true, true, true, false, true, true, false, false, false, false, false, false]
def L4_16 : Array Bool := #[true, true, true, true, true, true, true, true, true, true, true, true, true, false, true, true, true, false, false, false, false, false]
def L4_17 : Array Bool := #[true, true, true, true, true, true, true, true, true, true, true, true, true, true, true, true, true, false, false, false, false, false]
def L4_18 : Array Bool := #[true, true, true, true, true, true, true, true, true, true, true, true, true, true, true, true, true, true, false, false, false, false]
def L4_19 : Array Bool := #[true, true, true, true, true, true, true, true, true, true, true, true, true, true, true, true, true, true, true, false, false, false]
def L4_20 : Array Bool := #[true, true, true, true, true, true, true, true, true, true, true, true, true, true, true, true, true, true, true, true, false, false]
def L4_21 : Array Bool := #[true, true, true, true, true, true, true, true, true, true, true, true, true, true, true, true, true, true, true, true, true, false]
def L4_22 : Array Bool := #[true, true, true, true, true, true, true, true, true, true, true, true, true, true, true, true, true, true, true, true, true, true]
/-! ### fullerlaw11_InferCuts: function 4 -/
mutual
def fullerlaw11_InferCuts.j0 : Nat → List (S25) → Int → Bool → Bool → Option (Bool)
 | 0, _, _, _, _ => none
 | k + 1, x0, x1, x5, x23 => if x23 = true then (some x5) else ((infer_Shapes.f k x0).bind fun bt504 => (if bt504.2.2 = 0 then (fullerlaw11_InferCuts.j1 k x0 x1 x5 bt504.1 bt504.2.1 bt504.2.2 (x0.length : Int)) else (fullerlaw11_InferCuts.j1 k x0 x1 x5 bt504.1 bt504.2.1 bt504.2.2 bt504.2.1)))
def fullerlaw11_InferCuts.j1 : Nat → List (S25) → Int → Bool → List (List Int) → Int → Int → Int → Option (Bool)
 | 0, _, _, _, _, _, _, _ => none
 | k + 1, x0, x1, x5, x6, x7, x8, x9 => if x9 < 0 then (fullerlaw11_InferCuts.j2 k x0 x1 x5 x6 x7 x8 x9 true) else (if x9 > (x0.length : Int) then (fullerlaw11_InferCuts.j2 k x0 x1 x5 x6 x7 x8 x9 true) else (fullerlaw11_InferCuts.j2 k x0 x1 x5 x6 x7 x8 x9 (x9 == 0)))
def fullerlaw11_InferCuts.j2 : Nat → List (S25) → Int → Bool → List (List Int) → Int → Int → Int → Bool → Option (Bool)
 | 0, _, _, _, _, _, _, _, _ => none
 | k + 1, x0, x1, x5, x6, x7, x8, x9, x47 => if x47 = true then (if x5 = true then (if x8 = 20 then (some (x7 == 0)) else (some false)) else (some false)) else (if x9 = 0 then (none) else (if 0 ≤ (wrap64 (1 + (Int.tmod (wrap64 (x1)) x9))) then (if (wrap64 (1 + (Int.tmod (wrap64 (x1)) x9))) ≤ (x0.length : Int) then ((infer_Shapes.f k (x0.take ((wrap64 (1 + (Int.tmod (wrap64 (x1)) x9))) : Int).toNat)).bind fun bt513 => (if bt513.2.2 = 0 then (if (bt513.1.length : Int) = (wrap64 (1 + (Int.tmod (wrap64 (x1)) x9))) then (if x8 = 0 then (fullerlaw11_InferCuts.j3 k x5 x6 x8 (wrap64 (1 + (Int.tmod (wrap64 (x1)) x9))) bt513.1 ((x6.length : Int) != (x0.length : Int))) else (fullerlaw11_InferCuts.j3 k x5 x6 x8 (wrap64 (1 + (Int.tmod (wrap64 (x1)) x9))) bt513.1 false)) else (fullerlaw11_InferCuts.j3 k x5 x6 x8 (wrap64 (1 + (Int.tmod (wrap64 (x1)) x9))) bt513.1 true)) else (fullerlaw11_InferCuts.j3 k x5 x6 x8 (wrap64 (1 + (Int.tmod (wrap64 (x1)) x9))) bt513.1 true))) else (none)) else (none)))
def fullerlaw11_InferCuts.j3 : Nat → Bool → List (List Int) → Int → Int → List (List Int) → Bool → Option (Bool)
 | 0, _, _, _, _, _, _ => none
 | k + 1, x5, x6, x8, x10, x11, x88 => if x88 = true then (some false) else (fullerlaw11_InferCuts.l0 k x5 x6 x8 x10 x11 0)
def fullerlaw11_InferCuts.l0 : Nat → Bool → List (List Int) → Int → Int → List (List Int) → Int → Option (Bool)
 | 0, _, _, _, _, _, _ => none
 | k + 1, x5, x6, x8, x10, x11, x14 => if x14 < x10 then (if 0 ≤ x14 then (if x14 < (x11.length : Int) then ((shape_Check.f k (rd_L1 x11 x14)).bind fun t519 => (if t519 = true then (if x8 = 0 then (if x14 < (x6.length : Int) then ((fullerref02_Same.f k (rd_L1 x11 x14) (rd_L1 x6 x14)).bind fun t522 => (if t522 = true then (fullerlaw11_InferCuts.l0 k x5 x6 x8 x10 x11 (wrap64 (x14 + 1))) else (some false))) else (none)) else (fullerlaw11_InferCuts.l0 k x5 x6 x8 x10 x11 (wrap64 (x14 + 1)))) else (some false))) else (none)) else (none)) else (some x5)
end
def fullerlaw11_InferCuts.f (k : Nat) (l0 : List (S25)) (a1 : Int) : Option (Bool) := (fullerlaw11_awake.f k).bind fun t501 => ((fullerref10_Few.f k l0).bind fun t502 => (if t502 = true then ((graph_Check.f l0).bind fun t503 => (fullerlaw11_InferCuts.j0 k l0 a1 t501 (!t503))) else (fullerlaw11_InferCuts.j0 k l0 a1 t501 true)))
theorem fullerlaw11_InferCuts.mono_l : ∀ k, (∀ y0 y1 y2 y3, LeO (fullerlaw11_InferCuts.j0 k y0 y1 y2 y3) (fullerlaw11_InferCuts.j0 (k + 1) y0 y1 y2 y3)) ∧ (∀ y0 y1 y2 y3 y4 y5 y6, LeO (fullerlaw11_InferCuts.j1 k y0 y1 y2 y3 y4 y5 y6) (fullerlaw11_InferCuts.j1 (k + 1) y0 y1 y2 y3 y4 y5 y6)) ∧ (∀ y0 y1 y2 y3 y4 y5 y6 y7, LeO (fullerlaw11_InferCuts.j2 k y0 y1 y2 y3 y4 y5 y6 y7) (fullerlaw11_InferCuts.j2 (k + 1) y0 y1 y2 y3 y4 y5 y6 y7)) ∧ (∀ y0 y1 y2 y3 y4 y5, LeO (fullerlaw11_InferCuts.j3 k y0 y1 y2 y3 y4 y5) (fullerlaw11_InferCuts.j3 (k + 1) y0 y1 y2 y3 y4 y5)) ∧ (∀ y0 y1 y2 y3 y4 y5, LeO (fullerlaw11_InferCuts.l0 k y0 y1 y2 y3 y4 y5) (fullerlaw11_InferCuts.l0 (k + 1) y0 y1 y2 y3 y4 y5))
 | 0 => ⟨fun _ _ _ _ r h => by simp [fullerlaw11_InferCuts.j0] at h, fun _ _ _ _ _ _ _ r h => by simp [fullerlaw11_InferCuts.j1] at h, fun _ _ _ _ _ _ _ _ r h => by simp [fullerlaw11_InferCuts.j2] at h, fun _ _ _ _ _ _ r h => by simp [fullerlaw11_InferCuts.j3] at h, fun _ _ _ _ _ _ r h => by simp [fullerlaw11_InferCuts.l0] at h⟩
 | k + 1 => by
  obtain ⟨ih0, ih1, ih2, ih3, ih4⟩ := fullerlaw11_InferCuts.mono_l k
  refine ⟨?_, ?_, ?_, ?_, ?_⟩
  ·intro y0 y1 y2 y3
   unfold fullerlaw11_InferCuts.j0
   repeat' first
   | (with_reducible exact ih0 _ _ _ _)
   | (with_reducible exact ih1 _ _ _ _ _ _ _)
   | (with_reducible exact ih2 _ _ _ _ _ _ _ _)
   | (with_reducible exact ih3 _ _ _ _ _ _)
   | (with_reducible exact ih4 _ _ _ _ _ _)
   | (with_reducible exact fullerlaw11_awake.mono _)
   | (with_reducible exact fullerref02_Same.mono _ _ _)
   | (with_reducible exact fullerref10_Few.mono _ _)
   | (with_reducible exact infer_Shapes.mono _ _)
   | (with_reducible exact shape_Check.mono _ _)
   | (with_reducible exact LeO.refl _)
   | (with_reducible exact LeO.none _)
   | (with_reducible refine LeO.ite ?_ ?_)
   | (with_reducible refine LeO.bind ?_ (fun _ => ?_))
   | exact ih0 _ _ _ _
   | exact ih1 _ _ _ _ _ _ _
   | exact ih2 _ _ _ _ _ _ _ _
   | exact ih3 _ _ _ _ _ _
   | exact ih4 _ _ _ _ _ _
   | exact fullerlaw11_awake.mono _
   | exact fullerref02_Same.mono _ _ _
   | exact fullerref10_Few.mono _ _
   | exact infer_Shapes.mono _ _
   | exact shape_Check.mono _ _
   | exact LeO.none _
   | refine LeO.ite ?_ ?_
   | refine LeO.bind ?_ (fun _ => ?_)
  ·intro y0 y1 y2 y3 y4 y5 y6
   unfold fullerlaw11_InferCuts.j1
   repeat' first
   | (with_reducible exact ih0 _ _ _ _)
   | (with_reducible exact ih1 _ _ _ _ _ _ _)
   | (with_reducible exact ih2 _ _ _ _ _ _ _ _)
   | (with_reducible exact ih3 _ _ _ _ _ _)
   | (with_reducible exact ih4 _ _ _ _ _ _)
   | (with_reducible exact fullerlaw11_awake.mono _)
   | (with_reducible exact fullerref02_Same.mono _ _ _)
   | (with_reducible exact fullerref10_Few.mono _ _)
   | (with_reducible exact infer_Shapes.mono _ _)
   | (with_reducible exact shape_Check.mono _ _)
   | (with_reducible exact LeO.refl _)
   | (with_reducible exact LeO.none _)
   | (with_reducible refine LeO.ite ?_ ?_)
   | (with_reducible refine LeO.bind ?_ (fun _ => ?_))
   | exact ih0 _ _ _ _
   | exact ih1 _ _ _ _ _ _ _
   | exact ih2 _ _ _ _ _ _ _ _
   | exact ih3 _ _ _ _ _ _
   | exact ih4 _ _ _ _ _ _
   | exact fullerlaw11_awake.mono _
   | exact fullerref02_Same.mono _ _ _
   | exact fullerref10_Few.mono _ _
   | exact infer_Shapes.mono _ _
   | exact shape_Check.mono _ _
   | exact LeO.none _
   | refine LeO.ite ?_ ?_
   | refine LeO.bind ?_ (fun _ => ?_)
  ·intro y0 y1 y2 y3 y4 y5 y6 y7
   unfold fullerlaw11_InferCuts.j2
   repeat' first
   | (with_reducible exact ih0 _ _ _ _)
   | (with_reducible exact ih1 _ _ _ _ _ _ _)
   | (with_reducible exact ih2 _ _ _ _ _ _ _ _)
   | (with_reducible exact ih3 _ _ _ _ _ _)
   | (with_reducible exact ih4 _ _ _ _ _ _)
   | (with_reducible exact fullerlaw11_awake.mono _)
   | (with_reducible exact fullerref02_Same.mono _ _ _)
   | (with_reducible exact fullerref10_Few.mono _ _)
   | (with_reducible exact infer_Shapes.mono _ _)
   | (with_reducible exact shape_Check.mono _ _)
   | (with_reducible exact LeO.refl _)
   | (with_reducible exact LeO.none _)
   | (with_reducible refine LeO.ite ?_ ?_)
   | (with_reducible refine LeO.bind ?_ (fun _ => ?_))
   | exact ih0 _ _ _ _
   | exact ih1 _ _ _ _ _ _ _
   | exact ih2 _ _ _ _ _ _ _ _
   | exact ih3 _ _ _ _ _ _
   | exact ih4 _ _ _ _ _ _
   | exact fullerlaw11_awake.mono _
   | exact fullerref02_Same.mono _ _ _
   | exact fullerref10_Few.mono _ _
   | exact infer_Shapes.mono _ _
   | exact shape_Check.mono _ _
   | exact LeO.none _
   | refine LeO.ite ?_ ?_
   | refine LeO.bind ?_ (fun _ => ?_)
  ·intro y0 y1 y2 y3 y4 y5
   unfold fullerlaw11_InferCuts.j3
   repeat' first
   | (with_reducible exact ih0 _ _ _ _)
   | (with_reducible exact ih1 _ _ _ _ _ _ _)
   | (with_reducible exact ih2 _ _ _ _ _ _ _ _)
   | (with_reducible exact ih3 _ _ _ _ _ _)
   | (with_reducible exact ih4 _ _ _ _ _ _)
   | (with_reducible exact fullerlaw11_awake.mono _)
   | (with_reducible exact fullerref02_Same.mono _ _ _)
   | (with_reducible exact fullerref10_Few.mono _ _)
   | (with_reducible exact infer_Shapes.mono _ _)
   | (with_reducible exact shape_Check.mono _ _)
   | (with_reducible exact LeO.refl _)
   | (with_reducible exact LeO.none _)
   | (with_reducible refine LeO.ite ?_ ?_)
   | (with_reducible refine LeO.bind ?_ (fun _ => ?_))
   | exact ih0 _ _ _ _
   | exact ih1 _ _ _ _ _ _ _
   | exact ih2 _ _ _ _ _ _ _ _
   | exact ih3 _ _ _ _ _ _
   | exact ih4 _ _ _ _ _ _
   | exact fullerlaw11_awake.mono _
   | exact fullerref02_Same.mono _ _ _
   | exact fullerref10_Few.mono _ _
   | exact infer_Shapes.mono _ _
   | exact shape_Check.mono _ _
   | exact LeO.none _
   | refine LeO.ite ?_ ?_
   | refine LeO.bind ?_ (fun _ => ?_)
  ·intro y0 y1 y2 y3 y4 y5
   unfold fullerlaw11_InferCuts.l0
   repeat' first
   | (with_reducible exact ih0 _ _ _ _)
   | (with_reducible exact ih1 _ _ _ _ _ _ _)
   | (with_reducible exact ih2 _ _ _ _ _ _ _ _)
   | (with_reducible exact ih3 _ _ _ _ _ _)
   | (with_reducible exact ih4 _ _ _ _ _ _)
   | (with_reducible exact fullerlaw11_awake.mono _)
   | (with_reducible exact fullerref02_Same.mono _ _ _)
   | (with_reducible exact fullerref10_Few.mono _ _)
   | (with_reducible exact infer_Shapes.mono _ _)
   | (with_reducible exact shape_Check.mono _ _)
   | (with_reducible exact LeO.refl _)
   | (with_reducible exact LeO.none _)
   | (with_reducible refine LeO.ite ?_ ?_)
   | (with_reducible refine LeO.bind ?_ (fun _ => ?_))
   | exact ih0 _ _ _ _
   | exact ih1 _ _ _ _ _ _ _
   | exact ih2 _ _ _ _ _ _ _ _
   | exact ih3 _ _ _ _ _ _
   | exact ih4 _ _ _ _ _ _
   | exact fullerlaw11_awake.mono _
   | exact fullerref02_Same.mono _ _ _
   | exact fullerref10_Few.mono _ _
   | exact infer_Shapes.mono _ _
   | exact shape_Check.mono _ _
   | exact LeO.none _
   | refine LeO.ite ?_ ?_
   | refine LeO.bind ?_ (fun _ => ?_)
theorem fullerlaw11_InferCuts.mono : ∀ a0 a1 k, LeO (fullerlaw11_InferCuts.f k a0 a1) (fullerlaw11_InferCuts.f (k + 1) a0 a1) := by
 intro a0 a1 k
 obtain ⟨ih0, ih1, ih2, ih3, ih4⟩ := fullerlaw11_InferCuts.mono_l k
 unfold fullerlaw11_InferCuts.f
 repeat' first
   | (with_reducible exact ih0 _ _ _ _)
   | (with_reducible exact ih1 _ _ _ _ _ _ _)
   | (with_reducible exact ih2 _ _ _ _ _ _ _ _)
   | (with_reducible exact ih3 _ _ _ _ _ _)
   | (with_reducible exact ih4 _ _ _ _ _ _)
   | (with_reducible exact fullerlaw11_awake.mono _)
   | (with_reducible exact fullerref02_Same.mono _ _ _)
   | (with_reducible exact fullerref10_Few.mono _ _)
   | (with_reducible exact infer_Shapes.mono _ _)
   | (with_reducible exact shape_Check.mono _ _)
   | (with_reducible exact LeO.refl _)
   | (with_reducible exact LeO.none _)
   | (with_reducible refine LeO.ite ?_ ?_)
   | (with_reducible refine LeO.bind ?_ (fun _ => ?_))
   | exact ih0 _ _ _ _
   | exact ih1 _ _ _ _ _ _ _
   | exact ih2 _ _ _ _ _ _ _ _
   | exact ih3 _ _ _ _ _ _
   | exact ih4 _ _ _ _ _ _
   | exact fullerlaw11_awake.mono _
   | exact fullerref02_Same.mono _ _ _
   | exact fullerref10_Few.mono _ _
   | exact infer_Shapes.mono _ _
   | exact shape_Check.mono _ _
   | exact LeO.none _
   | refine LeO.ite ?_ ?_
   | refine LeO.bind ?_ (fun _ => ?_)
def fullerlaw11_InferCuts.T17 : Bool × List (List Nat × List Nat) := (true, [([], []), ([], []), ([0, 1], [0, 1]), ([2], [2]), ([3], [3]), ([4], [4]), ([5, 4], [5]), ([6], [6]), ([7, 6], [6, 7]), ([8, 6, 6], [6, 8]), ([9], [9]), ([9], [9]), ([10, 11, 9], [9, 10, 11]), ([12, 9], [9, 12]), ([9], [9]), ([9], [9]), ([14, 15, 9], [9, 14, 15]), ([16, 9], [9, 16]), ([13, 17, 9, 9], [9, 13, 17]), ([18, 9], [9, 18]), ([9, 19, 6], [6, 9, 19]), ([6, 20], [6, 20])])
def fullerlaw11_InferCuts.B17 : List Nat := [0, 0, 3, 7, 15, 31, 63, 127, 255, 511, 1023, 1023, 4095, 8191, 1023, 1023, 50175, 115711, 262143, 524287, 1048575, 2097151]
theorem fullerlaw11_InferCuts.tab17 : rtab .any (opsOf Try.f4 17) = fullerlaw11_InferCuts.T17 := by kernel_rfl
theorem fullerlaw11_InferCuts.bits17 : waitsOk fullerlaw11_InferCuts.T17.2 fullerlaw11_InferCuts.B17 = true := by kernel_rfl
set_option maxHeartbeats 8000000 in
set_option maxRecDepth 100000 in
theorem fullerlaw11_InferCuts.calls (k : Nat) (A0 : Option Addr) (c0 : Nat) (l0 : List (S25)) (a1 : Int) (r : Bool) (w : World) (hr0 : Kd.C k25 w A0 l0.length l0) (hc0 : l0.length ≤ c0) (h : fullerlaw11_InferCuts.f k l0 a1 = some r) :
  Calls Try.prog 4 #[.slice A0 l0.length c0, .int .u8 a1] w fun e w' => e = .returned (.bool r) ∧ Below w.heap.size w w' := by
 have HR0 := Aside0.mk hr0
 have HC0 := Aside0.mk hc0
 clear hr0 hc0
 have HB := Aside0.mk (Below.refl w.heap.size w)
 have H : ((fullerlaw11_awake.f k).bind fun t501 => ((fullerref10_Few.f k l0).bind fun t502 => (if t502 = true then ((graph_Check.f l0).bind fun t503 => (fullerlaw11_InferCuts.j0 k l0 a1 t501 (!t503))) else (fullerlaw11_InferCuts.j0 k l0 a1 t501 true)))) = some r := h
 clear h
 replace H := Option.bind_eq_some_iff.mp H
 obtain ⟨t501, A30, H⟩ := H
 replace H : ((fullerref10_Few.f k l0).bind fun t502 => (if t502 = true then ((graph_Check.f l0).bind fun t503 => (fullerlaw11_InferCuts.j0 k l0 a1 t501 (!t503))) else (fullerlaw11_InferCuts.j0 k l0 a1 t501 true))) = some r := H
 have A3 := Aside0.mk A30
 clear A30
 have HC4 := Aside0.mk H
 clear H
 go_enter Try.func4, Try.ntmps4
 go_upto_region 2 with (first | ((with_reducible refine gate_callee (f := 8) rfl ?_); refine gL_ (some 15) Try.func8 #[] ?_; (with_reducible refine (fullerlaw11_awake.calls k  t501 _ A3.out).mono ?_); rintro e w5 ⟨rfl, hb⟩; refine ⟨_, rfl, ?_⟩; replace HB := Aside0.mk (below_step (bq0_ HB.out) hb); (try clear hb)))
 (try simp only [Act.put, sA_, sB_, sC_])
 go_cut [23] (fun v23 wc => ∃ (kq : Nat) (x23_3 : Bool), v23 = .bool x23_3 ∧ Aside0 (fullerlaw11_InferCuts.j0 kq l0 a1 t501 x23_3 = some r) ∧ Aside0 (kq ≤ k) ∧ Aside0 (Below w.heap.size w wc))
 case first =>
  have H := HC4.out
  clear HC4
  replace H := Option.bind_eq_some_iff.mp H
  obtain ⟨t502, A60, H⟩ := H
  replace H : (if t502 = true then ((graph_Check.f l0).bind fun t503 => (fullerlaw11_InferCuts.j0 k l0 a1 t501 (!t503))) else (fullerlaw11_InferCuts.j0 k l0 a1 t501 true)) = some r := H
  have A6 := Aside0.mk A60
  clear A60
  by_cases c7 : t502 = true
  ·subst c7
   have H1 : ((graph_Check.f l0).bind fun t503 => (fullerlaw11_InferCuts.j0 k l0 a1 t501 (!t503))) = some r := by rw [if_pos rfl] at H; exact H
   clear H
   have H := H1
   clear H1
   replace H := Option.bind_eq_some_iff.mp H
   obtain ⟨t503, A80, H⟩ := H
   replace H : (fullerlaw11_InferCuts.j0 k l0 a1 t501 (!t503)) = some r := H
   have A8 := Aside0.mk A80
   clear A80
   have H' := Aside0.mk H
   clear H
   go_wp2_with (first | ((with_reducible refine gate_callee (f := 9) rfl ?_); refine gL_ (some 17) Try.func9 #[.slice A0 l0.length c0] ?_; (with_reducible refine (fullerref10_Few.calls k _ _ l0 true _ ?side1 ?side2 A6.out).mono ?_); (case side1 => exact mvC_ ((Kd.C_below HR0.out HB.out))); (case side2 => exact HC0.out); rintro e w' ⟨rfl, ⟨nd, rfl⟩⟩; refine ⟨_, rfl, ?_⟩) | (go_at_call 17; (with_reducible refine (graph_Check.calls _ _ l0 t503 _ ?side1 ?side2 A8.out).mono ?_); (case side1 => repeat (first | exact (Kd.C_below HR0.out (bq0_ HB.out)) | (with_reducible refine Kd.C_alloc ?_ _) | (with_reducible refine Kd.C_drewN ?_ _) | (with_reducible refine Kd.C_drew ?_))); (case side2 => exact HC0.out); rintro e w9 ⟨rfl, hb⟩; replace HB := Aside0.mk (below_step (bq0_ HB.out) hb); (try clear hb)))
   go_meet
   case rel => exact ⟨_, (!t503), (by first | rfl | (simp; done) | (simp [*]; done)), H', ⟨by first | omega | exact Nat.le_refl _⟩, ⟨bq0_ HB.out⟩⟩
  ·replace c7 := Bool.eq_false_iff.mpr c7
   subst c7
   have H1 : (fullerlaw11_InferCuts.j0 k l0 a1 t501 true) = some r := by rw [if_neg (show ¬ (false = true) by decide)] at H; exact H
   clear H
   have H := H1
   clear H1
   have H' := Aside0.mk H
   clear H
   go_wp2_with (first | ((with_reducible refine gate_callee (f := 9) rfl ?_); refine gL_ (some 17) Try.func9 #[.slice A0 l0.length c0] ?_; (with_reducible refine (fullerref10_Few.calls k _ _ l0 false _ ?side1 ?side2 A6.out).mono ?_); (case side1 => exact mvC_ ((Kd.C_below HR0.out HB.out))); (case side2 => exact HC0.out); rintro e w' ⟨rfl, ⟨nd, rfl⟩⟩; refine ⟨_, rfl, ?_⟩))
   go_meet
   case rel => exact ⟨_, (true), (by first | rfl | (simp; done) | (simp [*]; done)), H', ⟨by first | omega | exact Nat.le_refl _⟩, ⟨bq0_ HB.out⟩⟩
 case rest =>
  clear HC4
  try clear p2
  try clear c4
  try clear c7
  try clear c8
  try clear c9
  obtain ⟨kq, x23_3, rfl, HA, HJ3, HB⟩ := hcut
  cases kq with
  | zero => exact absurd HA.out (by simp [fullerlaw11_InferCuts.j0])
  | succ kj3 =>
   have H := HA.out
   clear HA
   simp only [fullerlaw11_InferCuts.j0] at H
   by_cases c10 : x23_3 = true
   ·subst c10
    have H1 : (some t501) = some r := by rw [if_pos rfl] at H; exact H
    clear H
    have H := H1
    clear H1
    obtain rfl := Option.some.inj H
    go_wp2
    go_ret
    exact ⟨by first | rfl | (simp <;> rfl) | (simp [*] <;> rfl), bq0_ HB.out⟩
   ·replace c10 := Bool.eq_false_iff.mpr c10
    subst c10
    have H1 : ((infer_Shapes.f kj3 l0).bind fun bt504 => (if bt504.2.2 = 0 then (fullerlaw11_InferCuts.j1 kj3 l0 a1 t501 bt504.1 bt504.2.1 bt504.2.2 (l0.length : Int)) else (fullerlaw11_InferCuts.j1 kj3 l0 a1 t501 bt504.1 bt504.2.1 bt504.2.2 bt504.2.1))) = some r := by rw [if_neg (show ¬ (false = true) by decide)] at H; exact H
    clear H
    have H := H1
    clear H1
    replace H := Option.bind_eq_some_iff.mp H
    obtain ⟨⟨t504, t507, t508⟩, A110, H⟩ := H
    replace H : (if t508 = 0 then (fullerlaw11_InferCuts.j1 kj3 l0 a1 t501 t504 t507 t508 (l0.length : Int)) else (fullerlaw11_InferCuts.j1 kj3 l0 a1 t501 t504 t507 t508 t507)) = some r := H
    have A11 := Aside0.mk A110
    clear A110
    have HC12 := Aside0.mk H
    clear H
    go_upto_if 34 with (first | ((with_reducible refine gate_callee (f := 13) rfl ?_); refine gL_ (some 27) Try.func13 #[.slice A0 l0.length c0] ?_; (with_reducible refine (infer_Shapes.calls kj3 _ _ l0 t504 t507 t508 _ ?side1 ?side2 A11.out).mono ?_); (case side1 => exact mvC_ ((Kd.C_below HR0.out HB.out))); (case side2 => exact HC0.out); rintro e w13 ⟨v505, rfl, ho0, hb⟩; refine ⟨_, rfl, ?_⟩; have HO506 := Aside0.mk (Kd.N_lower (Kd.N_mono (ok' := fun k_ => True) ho0 (fun k_ hk_ => trivial)) (below_size (bq0_ HB.out))); replace HB := Aside0.mk (below_step (bq0_ HB.out) hb); (try clear hb); (try clear ho0)))
    (try simp only [Act.put, sA_, sB_, sC_])
    go_cut [9] (fun v9 wc => ∃ (kq : Nat) (x9_11 : Int), v9 = .int .i64 x9_11 ∧ Aside0 (fullerlaw11_InferCuts.j1 kq l0 a1 t501 t504 t507 t508 x9_11 = some r) ∧ Aside0 (kq ≤ kj3) ∧ Aside0 (Kd.N (Kd.slice 3 (Kd.int .i64)) 23 wc w.heap.size (fun _ => True) v505 t504) ∧ Aside0 (Below w.heap.size w wc))
    case first =>
     have H := HC12.out
     clear HC12
     by_cases c14 : t508 = 0
     ·rw [if_pos c14] at H
      obtain ⟨c14b0, c14b1⟩ := eqT_ c14
      clear c14
      (first | rw [c14b0] | (simp only [i64_w, i32_w]; rw [c14b0]) | skip)
      have H' := Aside0.mk H
      clear H
      go_wp2
      go_meet
      case rel => exact ⟨_, ((l0.length : Int)), (by first | rfl | (simp; done) | (simp [*]; done)), H', ⟨by have := HJ3.out; first | omega | exact Nat.le_refl _⟩, ⟨mvN_ HO506.out⟩, ⟨bq0_ HB.out⟩⟩
     ·rw [if_neg c14] at H
      have c14b0 : (t508 == 0) = false := beq_eq_false_iff_ne.mpr c14
      have c14b1 : (t508 != 0) = true := bne_iff_ne.mpr c14
      (first | rw [c14b0] | (simp only [i64_w, i32_w]; rw [c14b0]) | skip)
      have H' := Aside0.mk H
      clear H
      go_wp2
      go_meet
      case rel => exact ⟨_, (t507), (by first | rfl | (simp; done) | (simp [*]; done)), H', ⟨by have := HJ3.out; first | omega | exact Nat.le_refl _⟩, ⟨mvN_ HO506.out⟩, ⟨bq0_ HB.out⟩⟩
    case rest =>
     clear HC12
     try clear c1
     try clear p2
     try clear c4
     try clear c7
     try clear c8
     try clear c9
     try clear c10
     try clear c13
     try clear c14
     try clear c14b0
     try clear c14b1
     try clear p2
     obtain ⟨kq, x9_11, rfl, HA, HJ11, HO_6, HB⟩ := hcut
     cases kq with
     | zero => exact absurd HA.out (by simp [fullerlaw11_InferCuts.j1])
     | succ kj11 =>
      have H := HA.out
      clear HA
      simp only [fullerlaw11_InferCuts.j1] at H
      have HC15 := Aside0.mk H
      clear H
      go_upto_region 8 with (fail)
      go_cut [47] (fun v47 wc => ∃ (kq : Nat) (x47_14 : Bool), v47 = .bool x47_14 ∧ Aside0 (fullerlaw11_InferCuts.j2 kq l0 a1 t501 t504 t507 t508 x9_11 x47_14 = some r) ∧ Aside0 (kq ≤ kj11) ∧ Aside0 (Kd.N (Kd.slice 3 (Kd.int .i64)) 23 wc w.heap.size (fun _ => True) v505 t504) ∧ Aside0 (Below w.heap.size w wc))
      case first =>
       have H := HC15.out
       clear HC15
       by_cases c16 : x9_11 < 0
       ·rw [if_pos c16] at H
        have c16b0 : decide (x9_11 < 0) = true := decide_eq_true c16
        clear c16
        (first | rw [c16b0] | (simp only [i64_w, i32_w]; rw [c16b0]) | skip)
        have H' := Aside0.mk H
        clear H
        go_wp2
        go_meet
        case rel => exact ⟨_, (true), (by first | rfl | (simp; done) | (simp [*]; done)), H', ⟨by have := HJ3.out; have := HJ11.out; first | omega | exact Nat.le_refl _⟩, ⟨mvN_ HO_6.out⟩, ⟨bq0_ HB.out⟩⟩
       ·rw [if_neg c16] at H
        have c16b0 : decide (x9_11 < 0) = false := decide_eq_false c16
        clear c16
        (first | rw [c16b0] | (simp only [i64_w, i32_w]; rw [c16b0]) | skip)
        by_cases c17 : x9_11 > (l0.length : Int)
        ·rw [if_pos c17] at H
         have c17b0 : decide ((l0.length : Int) < x9_11) = true := decide_eq_true c17
         clear c17
         have H' := Aside0.mk H
         clear H
         go_wp2
         go_meet
         case rel => exact ⟨_, (true), (by first | rfl | (simp; done) | (simp [*]; done)), H', ⟨by have := HJ3.out; have := HJ11.out; first | omega | exact Nat.le_refl _⟩, ⟨mvN_ HO_6.out⟩, ⟨bq0_ HB.out⟩⟩
        ·rw [if_neg c17] at H
         have c17b0 : decide ((l0.length : Int) < x9_11) = false := decide_eq_false c17
         clear c17
         have H' := Aside0.mk H
         clear H
         go_wp2
         go_meet
         case rel => exact ⟨_, ((x9_11 == 0)), (by first | rfl | (simp; done) | (simp [*]; done)), H', ⟨by have := HJ3.out; have := HJ11.out; first | omega | exact Nat.le_refl _⟩, ⟨mvN_ HO_6.out⟩, ⟨bq0_ HB.out⟩⟩
      case rest =>
       clear HC15
       try clear c1
       try clear p2
       try clear c4
       try clear c7
       try clear c8
       try clear c9
       try clear c10
       try clear c13
       try clear c14
       try clear c14b0
       try clear c14b1
       try clear c16
       try clear c16b0
       try clear c17
       try clear c17b0
       try clear p2
       obtain ⟨kq, x47_14, rfl, HA, HJ14, HO_6, HB⟩ := hcut
       cases kq with
       | zero => exact absurd HA.out (by simp [fullerlaw11_InferCuts.j2])
       | succ kj14 =>
        have H := HA.out
        clear HA
        simp only [fullerlaw11_InferCuts.j2] at H
        by_cases c18 : x47_14 = true
        ·subst c18
         have H1 : (if t501 = true then (if t508 = 20 then (some (t507 == 0)) else (some false)) else (some false)) = some r := by rw [if_pos rfl] at H; exact H
         clear H
         have H := H1
         clear H1
         by_cases c19 : t501 = true
         ·subst c19
          have H1 : (if t508 = 20 then (some (t507 == 0)) else (some false)) = some r := by rw [if_pos rfl] at H; exact H
          clear H
          have H := H1
          clear H1
          by_cases c20 : t508 = 20
          ·rw [if_pos c20] at H
           obtain ⟨c20b0, c20b1⟩ := eqT_ c20
           clear c20
           obtain rfl := Option.some.inj H
           go_wp2
           go_ret
           exact ⟨by first | rfl | (simp <;> rfl) | (simp [*] <;> rfl), bq0_ HB.out⟩
          ·rw [if_neg c20] at H
           have c20b0 : (t508 == 20) = false := beq_eq_false_iff_ne.mpr c20
           have c20b1 : (t508 != 20) = true := bne_iff_ne.mpr c20
           obtain rfl := Option.some.inj H
           go_wp2
           go_ret
           exact ⟨by first | rfl | (simp <;> rfl) | (simp [*] <;> rfl), bq0_ HB.out⟩
         ·replace c19 := Bool.eq_false_iff.mpr c19
          subst c19
          have H1 : (some false) = some r := by rw [if_neg (show ¬ (false = true) by decide)] at H; exact H
          clear H
          have H := H1
          clear H1
          obtain rfl := Option.some.inj H
          go_wp2
          go_ret
          exact ⟨by first | rfl | (simp <;> rfl) | (simp [*] <;> rfl), bq0_ HB.out⟩
        ·replace c18 := Bool.eq_false_iff.mpr c18
         subst c18
         have H1 : (if x9_11 = 0 then (none) else (if 0 ≤ (wrap64 (1 + (Int.tmod (wrap64 (a1)) x9_11))) then (if (wrap64 (1 + (Int.tmod (wrap64 (a1)) x9_11))) ≤ (l0.length : Int) then ((infer_Shapes.f kj14 (l0.take ((wrap64 (1 + (Int.tmod (wrap64 (a1)) x9_11))) : Int).toNat)).bind fun bt513 => (if bt513.2.2 = 0 then (if (bt513.1.length : Int) = (wrap64 (1 + (Int.tmod (wrap64 (a1)) x9_11))) then (if t508 = 0 then (fullerlaw11_InferCuts.j3 kj14 t501 t504 t508 (wrap64 (1 + (Int.tmod (wrap64 (a1)) x9_11))) bt513.1 ((t504.length : Int) != (l0.length : Int))) else (fullerlaw11_InferCuts.j3 kj14 t501 t504 t508 (wrap64 (1 + (Int.tmod (wrap64 (a1)) x9_11))) bt513.1 false)) else (fullerlaw11_InferCuts.j3 kj14 t501 t504 t508 (wrap64 (1 + (Int.tmod (wrap64 (a1)) x9_11))) bt513.1 true)) else (fullerlaw11_InferCuts.j3 kj14 t501 t504 t508 (wrap64 (1 + (Int.tmod (wrap64 (a1)) x9_11))) bt513.1 true))) else (none)) else (none))) = some r := by rw [if_neg (show ¬ (false = true) by decide)] at H; exact H
         clear H
         have H := H1
         clear H1
         by_cases c21 : x9_11 = 0
         ·rw [if_pos c21] at H
          exact absurd H (by simp)
         ·rw [if_neg c21] at H
          have c21b0 : (x9_11 == 0) = false := beq_eq_false_iff_ne.mpr c21
          have c21b1 : (x9_11 != 0) = true := bne_iff_ne.mpr c21
          obtain ⟨ji22, hji22⟩ : ∃ j_ : Int, (wrap64 (1 + (Int.tmod (wrap64 (a1)) x9_11))) = j_ := ⟨_, rfl⟩
          replace H : (if 0 ≤ (ji22) then (if (ji22) ≤ (l0.length : Int) then ((infer_Shapes.f kj14 (l0.take ((ji22) : Int).toNat)).bind fun bt513 => (if bt513.2.2 = 0 then (if (bt513.1.length : Int) = (ji22) then (if t508 = 0 then (fullerlaw11_InferCuts.j3 kj14 t501 t504 t508 ji22 bt513.1 ((t504.length : Int) != (l0.length : Int))) else (fullerlaw11_InferCuts.j3 kj14 t501 t504 t508 ji22 bt513.1 false)) else (fullerlaw11_InferCuts.j3 kj14 t501 t504 t508 ji22 bt513.1 true)) else (fullerlaw11_InferCuts.j3 kj14 t501 t504 t508 ji22 bt513.1 true))) else (none)) else (none)) = some r := by first | (rw [hji22] at H; exact H) | (simp only [hji22] at H ⊢; exact H)
          have hji22w : (IntKind.i64.wrap (1 + (Int.tmod (wrap64 (a1)) x9_11))) = ji22 := (i64_w _).trans hji22
          by_cases c23 : 0 ≤ (ji22)
          ·rw [if_pos c23] at H
           have c23b0 := eq_true c23
           have c23b1 : decide (0 ≤ (ji22)) = true := decide_eq_true c23
           clear c23
           by_cases c24 : (ji22) ≤ (l0.length : Int)
           ·rw [if_pos c24] at H
            have c24b0 := eq_true c24
            have c24b1 : decide ((ji22) ≤ (l0.length : Int)) = true := decide_eq_true c24
            clear c24
            obtain ⟨y509, hy509⟩ : ∃ y_ : List (S25), y_ = (l0.take ((ji22) : Int).toNat) := ⟨_, rfl⟩
            replace H : ((infer_Shapes.f kj14 y509).bind fun bt513 => (if bt513.2.2 = 0 then (if (bt513.1.length : Int) = (ji22) then (if t508 = 0 then (fullerlaw11_InferCuts.j3 kj14 t501 t504 t508 ji22 bt513.1 ((t504.length : Int) != (l0.length : Int))) else (fullerlaw11_InferCuts.j3 kj14 t501 t504 t508 ji22 bt513.1 false)) else (fullerlaw11_InferCuts.j3 kj14 t501 t504 t508 ji22 bt513.1 true)) else (fullerlaw11_InferCuts.j3 kj14 t501 t504 t508 ji22 bt513.1 true))) = some r := by first | (rw [hy509]; with_reducible exact H) | (have H2_ := (Option.bind_some _ _).symm.trans H; rw [hy509]; with_reducible exact H2_) | (have H2_ := (Option.bind_some _ _).symm.trans H; with_reducible exact H2_) | with_reducible exact H | (rw [hy509]; exact H) | exact H
            have Ny509 := Aside0.mk hy509
            clear hy509
            replace H := Option.bind_eq_some_iff.mp H
            obtain ⟨⟨t513, t516, t517⟩, A250, H⟩ := H
            replace H : (if t517 = 0 then (if (t513.length : Int) = (ji22) then (if t508 = 0 then (fullerlaw11_InferCuts.j3 kj14 t501 t504 t508 ji22 t513 ((t504.length : Int) != (l0.length : Int))) else (fullerlaw11_InferCuts.j3 kj14 t501 t504 t508 ji22 t513 false)) else (fullerlaw11_InferCuts.j3 kj14 t501 t504 t508 ji22 t513 true)) else (fullerlaw11_InferCuts.j3 kj14 t501 t504 t508 ji22 t513 true)) = some r := H
            have A25 := Aside0.mk A250
            clear A250
            have HC26 := Aside0.mk H
            clear H
            have q27 : ((ji22) : Int) ≤ ((l0.length : Int) : Int) := od_
            obtain ⟨i027, hi027, _, hsz27, _⟩ := info_parts info25
            have hroom27 : l0.length ≤ c0 := HC0.out
            have hC27 : Kd.C k25 _ A0 l0.length l0 := HR0.out
            have hcut27 := cut_to (P := Try.prog) 22 25 .i64 Try.underlying22 hi027 A0 l0.length c0 (ji22) od_ q27 hroom27
            have hr27 := Kd.C_take (m := ((ji22) : Int).toNat) hC27 (by omega)
            have hy27 : y509.length = ((ji22) : Int).toNat := (by rw [Ny509.out, List.length_take]; omega)
            rw [← Ny509.out] at hr27
            rw [← hy27] at hcut27
            have HR512 := Aside0.mk hr27
            have HC512 := Aside0.mk (show y509.length ≤ c0 from by omega)
            clear hr27 hC27 hroom27 hi027 hsz27
            have KY27 := Aside0.mk hy27
            clear hy27
            replace q27 := eq_true q27
            go_upto_region 12 with (first | ((with_reducible refine gate_callee (f := 13) rfl ?_); refine gL_ (some 66) Try.func13 #[.slice A0 y509.length c0] ?_; (with_reducible refine (infer_Shapes.calls kj14 _ _ y509 t513 t516 t517 _ ?side1 ?side2 A25.out).mono ?_); (case side1 => exact mvC_ ((Kd.C_below HR512.out HB.out))); (case side2 => exact HC512.out); rintro e w28 ⟨v514, rfl, ho0, hb⟩; refine ⟨_, rfl, ?_⟩; have HO515 := Aside0.mk (Kd.N_lower (Kd.N_mono (ok' := fun k_ => some k_ ≠ (v505 : Value).ownBlock) ho0 (fun k_ hk_ => (Kd.fresh' (Kd.N_lt (mvN_ HO_6.out)) k_ hk_))) (below_size (bq0_ HB.out))); replace HO_6 := Aside0.mk (Kd.N_elder' (mvN_ HO_6.out) (Kd.N_base ho0) hb); replace HB := Aside0.mk (below_step (bq0_ HB.out) hb); (try clear hb); (try clear ho0)))
            (try simp only [Act.put, sA_, sB_, sC_])
            go_cut [88] (fun v88 wc => ∃ (kq : Nat) (x88_25 : Bool), v88 = .bool x88_25 ∧ Aside0 (fullerlaw11_InferCuts.j3 kq t501 t504 t508 ji22 t513 x88_25 = some r) ∧ Aside0 (kq ≤ kj14) ∧ Aside0 (Kd.N (Kd.slice 3 (Kd.int .i64)) 23 wc w.heap.size (fun k_ => some k_ ≠ (v514 : Value).ownBlock) v505 t504) ∧ Aside0 (Kd.N (Kd.slice 3 (Kd.int .i64)) 23 wc w.heap.size (fun k_ => some k_ ≠ (v505 : Value).ownBlock) v514 t513) ∧ Aside0 (Below w.heap.size w wc))
            case first =>
             have H := HC26.out
             clear HC26
             by_cases c29 : t517 = 0
             ·rw [if_pos c29] at H
              obtain ⟨c29b0, c29b1⟩ := eqT_ c29
              clear c29
              (first | rw [c29b0] | (simp only [i64_w, i32_w]; rw [c29b0]) | skip)
              by_cases c30 : (t513.length : Int) = (ji22)
              ·rw [if_pos c30] at H
               obtain ⟨c30b0, c30b1⟩ := eqT_ c30
               clear c30
               by_cases c31 : t508 = 0
               ·rw [if_pos c31] at H
                obtain ⟨c31b0, c31b1⟩ := eqT_ c31
                clear c31
                have H' := Aside0.mk H
                clear H
                obtain ⟨Ao32, co32, eo32⟩ := Kd.N_slice HO515.out
                subst eo32
                obtain ⟨Ao33, co33, eo33⟩ := Kd.N_slice HO_6.out
                subst eo33
                go_wp2
                go_meet
                case rel => exact ⟨_, (((t504.length : Int) != (l0.length : Int))), (by first | rfl | (simp; done) | (simp [*]; done)), H', ⟨by have := HJ3.out; have := HJ11.out; have := HJ14.out; first | omega | exact Nat.le_refl _⟩, ⟨by (with_reducible repeat (first | apply Kd.N_alloc | apply Kd.N_drewN | apply Kd.N_drew)); exact Kd.N_mono HO_6.out (fun _ hk => hk.2)⟩, ⟨mvN_ HO515.out⟩, ⟨bq0_ HB.out⟩⟩
               ·rw [if_neg c31] at H
                have c31b0 : (t508 == 0) = false := beq_eq_false_iff_ne.mpr c31
                have c31b1 : (t508 != 0) = true := bne_iff_ne.mpr c31
                have H' := Aside0.mk H
                clear H
                obtain ⟨Ao34, co34, eo34⟩ := Kd.N_slice HO515.out
                subst eo34
                go_wp2
                go_meet
                case rel => exact ⟨_, (false), (by first | rfl | (simp; done) | (simp [*]; done)), H', ⟨by have := HJ3.out; have := HJ11.out; have := HJ14.out; first | omega | exact Nat.le_refl _⟩, ⟨by (with_reducible repeat (first | apply Kd.N_alloc | apply Kd.N_drewN | apply Kd.N_drew)); exact Kd.N_mono HO_6.out (fun _ hk => hk.2)⟩, ⟨mvN_ HO515.out⟩, ⟨bq0_ HB.out⟩⟩
              ·rw [if_neg c30] at H
               have c30b0 : ((t513.length : Int) == (ji22)) = false := beq_eq_false_iff_ne.mpr c30
               have c30b1 : ((t513.length : Int) != (ji22)) = true := bne_iff_ne.mpr c30
               have H' := Aside0.mk H
               clear H
               obtain ⟨Ao35, co35, eo35⟩ := Kd.N_slice HO515.out
               subst eo35
               go_wp2
               go_meet
               case rel => exact ⟨_, (true), (by first | rfl | (simp; done) | (simp [*]; done)), H', ⟨by have := HJ3.out; have := HJ11.out; have := HJ14.out; first | omega | exact Nat.le_refl _⟩, ⟨by (with_reducible repeat (first | apply Kd.N_alloc | apply Kd.N_drewN | apply Kd.N_drew)); exact Kd.N_mono HO_6.out (fun _ hk => hk.2)⟩, ⟨mvN_ HO515.out⟩, ⟨bq0_ HB.out⟩⟩
             ·rw [if_neg c29] at H
              have c29b0 : (t517 == 0) = false := beq_eq_false_iff_ne.mpr c29
              have c29b1 : (t517 != 0) = true := bne_iff_ne.mpr c29
              (first | rw [c29b0] | (simp only [i64_w, i32_w]; rw [c29b0]) | skip)
              have H' := Aside0.mk H
              clear H
              go_wp2
              go_meet
              case rel => exact ⟨_, (true), (by first | rfl | (simp; done) | (simp [*]; done)), H', ⟨by have := HJ3.out; have := HJ11.out; have := HJ14.out; first | omega | exact Nat.le_refl _⟩, ⟨by (with_reducible repeat (first | apply Kd.N_alloc | apply Kd.N_drewN | apply Kd.N_drew)); exact Kd.N_mono HO_6.out (fun _ hk => hk.2)⟩, ⟨mvN_ HO515.out⟩, ⟨bq0_ HB.out⟩⟩
            case rest =>
             clear HC26
             try clear c1
             try clear c2
             try clear p2
             try clear q2
             try clear c3
             try clear c4
             try clear p6
             try clear c7
             try clear c8
             try clear c9
             try clear c10
             try clear c13
             try clear c14
             try clear c14b0
             try clear c14b1
             try clear c16
             try clear c16b0
             try clear c17
             try clear c17b0
             try clear c18
             try clear c19
             try clear c20
             try clear c20b0
             try clear c20b1
             try clear c21
             try clear c21b0
             try clear c21b1
             try clear c23
             try clear c23b0
             try clear c23b1
             try clear c24
             try clear c24b0
             try clear c24b1
             try clear q27
             try clear c29
             try clear c29b0
             try clear c29b1
             try clear c30
             try clear c30b0
             try clear c30b1
             try clear c31
             try clear c31b0
             try clear c31b1
             try clear p2
             try clear q27
             obtain ⟨kq, x88_25, rfl, HA, HJ25, HO_6, HO_11, HB⟩ := hcut
             cases kq with
             | zero => exact absurd HA.out (by simp [fullerlaw11_InferCuts.j3])
             | succ kj25 =>
              have H := HA.out
              clear HA
              simp only [fullerlaw11_InferCuts.j3] at H
              by_cases c36 : x88_25 = true
              ·subst c36
               have H1 : (some false) = some r := by rw [if_pos rfl] at H; exact H
               clear H
               have H := H1
               clear H1
               obtain rfl := Option.some.inj H
               go_wp2
               go_ret
               exact ⟨by first | rfl | (simp [errW_none, errW_some] <;> rfl) | (simp only [← hji22]; first | rfl | (simp [errW_none, errW_some] <;> rfl)) | (simp [*, errW_none, errW_some] <;> rfl), bq0_ HB.out⟩
              ·replace c36 := Bool.eq_false_iff.mpr c36
               subst c36
               have H1 : (fullerlaw11_InferCuts.l0 kj25 t501 t504 t508 ji22 t513 0) = some r := by rw [if_neg (show ¬ (false = true) by decide)] at H; exact H
               clear H
               have H := H1
               clear H1
               have H' := Aside0.mk H
               clear H
               go_wp2
               go_loopg [14] kj25 (fun kq v14 w' => ∃ (x14_5 : Int), v14 = .int .i64 x14_5 ∧ Aside0 (fullerlaw11_InferCuts.l0 kq t501 t504 t508 ji22 t513 x14_5 = some r) ∧ Aside0 (kq ≤ kj25) ∧ Aside0 (Kd.N (Kd.slice 3 (Kd.int .i64)) 23 w' w.heap.size (fun k_ => some k_ ≠ (v514 : Value).ownBlock) v505 t504) ∧ Aside0 (Kd.N (Kd.slice 3 (Kd.int .i64)) 23 w' w.heap.size (fun k_ => some k_ ≠ (v505 : Value).ownBlock) v514 t513) ∧ Aside0 (Below w.heap.size w w'))
               case atStart => exact ⟨(0), (by first | rfl | (simp; done) | (simp [*]; done)), H', ⟨Nat.le_refl _⟩, ⟨mvN_ HO_6.out⟩, ⟨mvN_ HO_11.out⟩, ⟨bq0_ HB.out⟩⟩
               case round =>
                clear H'
                try clear c1
                try clear c2
                try clear p2
                try clear q2
                try clear c3
                try clear c4
                try clear p6
                try clear c7
                try clear c8
                try clear c9
                try clear c10
                try clear c13
                try clear c14
                try clear c14b0
                try clear c14b1
                try clear c16
                try clear c16b0
                try clear c17
                try clear c17b0
                try clear c18
                try clear c19
                try clear c20
                try clear c20b0
                try clear c20b1
                try clear c21
                try clear c21b0
                try clear c21b1
                try clear c23
                try clear c23b0
                try clear c23b1
                try clear c24
                try clear c24b0
                try clear c24b1
                try clear q27
                try clear c29
                try clear c29b0
                try clear c29b1
                try clear c30
                try clear c30b0
                try clear c30b1
                try clear c31
                try clear c31b0
                try clear c31b1
                try clear c36
                try clear p2
                try clear p6
                try clear q2
                try clear q27
                obtain ⟨x14_5, rfl, HA, HK5, HO_6, HO_11, HB⟩ := hrel
                cases gk with
                | zero => exact absurd HA.out (by simp [fullerlaw11_InferCuts.l0])
                | succ k5 =>
                 have H := HA.out
                 clear HA
                 simp only [fullerlaw11_InferCuts.l0] at H
                 by_cases c37 : x14_5 < ji22
                 ·rw [if_pos c37] at H
                  have c37b0 : decide (x14_5 < ji22) = true := decide_eq_true c37
                  clear c37
                  by_cases c38 : 0 ≤ x14_5
                  ·rw [if_pos c38] at H
                   have c38b0 : decide (0 ≤ x14_5) = true := decide_eq_true c38
                   clear c38
                   by_cases c39 : x14_5 < (t513.length : Int)
                   ·rw [if_pos c39] at H
                    have c39b0 : decide (x14_5 < (t513.length : Int)) = true := decide_eq_true c39
                    clear c39
                    replace H := Option.bind_eq_some_iff.mp H
                    obtain ⟨t519, A400, H⟩ := H
                    replace H : (if t519 = true then (if t508 = 0 then (if x14_5 < (t504.length : Int) then ((fullerref02_Same.f k5 (rd_L1 t513 x14_5) (rd_L1 t504 x14_5)).bind fun t522 => (if t522 = true then (fullerlaw11_InferCuts.l0 k5 t501 t504 t508 ji22 t513 (wrap64 (x14_5 + 1))) else (some false))) else (none)) else (fullerlaw11_InferCuts.l0 k5 t501 t504 t508 ji22 t513 (wrap64 (x14_5 + 1)))) else (some false)) = some r := H
                    have A40 := Aside0.mk A400
                    clear A400
                    by_cases c41 : t519 = true
                    ·subst c41
                     have H1 : (if t508 = 0 then (if x14_5 < (t504.length : Int) then ((fullerref02_Same.f k5 (rd_L1 t513 x14_5) (rd_L1 t504 x14_5)).bind fun t522 => (if t522 = true then (fullerlaw11_InferCuts.l0 k5 t501 t504 t508 ji22 t513 (wrap64 (x14_5 + 1))) else (some false))) else (none)) else (fullerlaw11_InferCuts.l0 k5 t501 t504 t508 ji22 t513 (wrap64 (x14_5 + 1)))) = some r := by rw [if_pos rfl] at H; exact H
                     clear H
                     have H := H1
                     clear H1
                     by_cases c42 : t508 = 0
                     ·rw [if_pos c42] at H
                      obtain ⟨c42b0, c42b1⟩ := eqT_ c42
                      clear c42
                      by_cases c43 : x14_5 < (t504.length : Int)
                      ·rw [if_pos c43] at H
                       have c43b0 : decide (x14_5 < (t504.length : Int)) = true := decide_eq_true c43
                       clear c43
                       replace H := Option.bind_eq_some_iff.mp H
                       obtain ⟨t522, A440, H⟩ := H
                       replace H : (if t522 = true then (fullerlaw11_InferCuts.l0 k5 t501 t504 t508 ji22 t513 (wrap64 (x14_5 + 1))) else (some false)) = some r := H
                       have A44 := Aside0.mk A440
                       clear A440
                       by_cases c45 : t522 = true
                       ·subst c45
                        have H1 : (fullerlaw11_InferCuts.l0 k5 t501 t504 t508 ji22 t513 (wrap64 (x14_5 + 1))) = some r := by rw [if_pos rfl] at H; exact H
                        clear H
                        have H := H1
                        clear H1
                        have H' := Aside0.mk H
                        clear H
                        try go_wp2
                        replace HO_6 := Aside0.mk (Kd.N_drew HO_6.out)
                        replace HO_11 := Aside0.mk (Kd.N_drew HO_11.out)
                        replace HB := Aside0.mk (below_drew1 HB.out)
                        obtain ⟨Ao47, co47, eo47⟩ := Kd.N_slice HO_11.out
                        (first | subst eo47 | (injection eo47 with f1_ f2_ f3_; have f4_ := f1_.symm; have f5_ := f3_.symm; clear f1_ f2_ f3_; subst f4_; subst f5_))
                        have p518 : 0 ≤ (x14_5 : Int) := od_
                        have q518 : x14_5 < (t513.length : Int) := od_
                        obtain ⟨ad518, A518_0, c518_0, e518, hx518_0, hl518_0, hi518_0⟩ := at_L1 (Kd.N_reads' HO_11.out).2.2 x14_5 p518 q518
                        cases e518
                        obtain ⟨ce518, hce518, hMe518, hcc518⟩ := Kd.N_get HO_11.out [] x14_5 p518 (by first | exact q518 | exact od_ | (have e_ := (Kd.N_reads' HO_11.out).1; omega))
                        obtain ⟨ua518_0, uc518_0, rfl, ul518_0, ge518_0⟩ := Kd.FK_slice_open hMe518
                        have hv518_0 := hcc518 0 _ rfl
                        rw [Nat.add_zero, show ((Kd.slice 3 (Kd.int .i64))).sz = 1 from rfl, Nat.mul_one] at hv518_0
                        replace hv518_0 := Option.some.inj (hv518_0.symm.trans hx518_0)
                        injection hv518_0 with hva_ hvn_ hvc_
                        rw [hva_] at ge518_0
                        rw [hvc_] at ul518_0
                        have HL518_0 := Aside0.mk (show Kd.V (Kd.int .i64) 3 _ w.heap.size _ _ (rd_L1 t513 x14_5) from Kd.V_mk ul518_0 ge518_0)
                        clear hva_ hvn_ hvc_ ge518_0 ul518_0 hcc518 hce518
                        have HR518_0 := Aside0.mk hi518_0
                        have HC518_0 := Aside0.mk hl518_0
                        clear hi518_0 hl518_0
                        replace p518 := eq_true p518
                        replace q518 := eq_true q518
                        have p520 : 0 ≤ (x14_5 : Int) := od_
                        have q520 : x14_5 < (t513.length : Int) := od_
                        obtain ⟨ad520, A520_0, c520_0, e520, hx520_0, hl520_0, hi520_0⟩ := at_L1 (Kd.N_reads' HO_11.out).2.2 x14_5 p520 q520
                        obtain rfl : ad518 = ad520 := (by injection e520)
                        obtain ⟨ce520, hce520, hMe520, hcc520⟩ := Kd.N_get HO_11.out [] x14_5 p520 (by first | exact q520 | exact od_ | (have e_ := (Kd.N_reads' HO_11.out).1; omega))
                        obtain ⟨ua520_0, uc520_0, rfl, ul520_0, ge520_0⟩ := Kd.FK_slice_open hMe520
                        have hv520_0 := hcc520 0 _ rfl
                        rw [Nat.add_zero, show ((Kd.slice 3 (Kd.int .i64))).sz = 1 from rfl, Nat.mul_one] at hv520_0
                        replace hv520_0 := Option.some.inj (hv520_0.symm.trans hx520_0)
                        injection hv520_0 with hva_ hvn_ hvc_
                        rw [hva_] at ge520_0
                        rw [hvc_] at ul520_0
                        have HL520_0 := Aside0.mk (show Kd.V (Kd.int .i64) 3 _ w.heap.size _ _ (rd_L1 t513 x14_5) from Kd.V_mk ul520_0 ge520_0)
                        clear hva_ hvn_ hvc_ ge520_0 ul520_0 hcc520 hce520
                        have HR520_0 := Aside0.mk hi520_0
                        have HC520_0 := Aside0.mk hl520_0
                        clear hi520_0 hl520_0
                        replace p520 := eq_true p520
                        replace q520 := eq_true q520
                        have ea_ := Option.some.inj (hx518_0.symm.trans hx520_0)
                        injection ea_ with ea_ en_ ec_
                        subst ea_
                        subst ec_
                        clear en_
                        have p521 : 0 ≤ (x14_5 : Int) := od_
                        have q521 : x14_5 < (t504.length : Int) := od_
                        obtain ⟨Aq48, cq48, eq48⟩ := Kd.N_slice HO_6.out
                        subst eq48
                        obtain ⟨ad521, A521_0, c521_0, e521, hx521_0, hl521_0, hi521_0⟩ := at_L1 (Kd.N_reads' HO_6.out).2.2 x14_5 p521 q521
                        cases e521
                        obtain ⟨ce521, hce521, hMe521, hcc521⟩ := Kd.N_get HO_6.out [] x14_5 p521 (by first | exact q521 | exact od_ | (have e_ := (Kd.N_reads' HO_6.out).1; omega))
                        obtain ⟨ua521_0, uc521_0, rfl, ul521_0, ge521_0⟩ := Kd.FK_slice_open hMe521
                        have hv521_0 := hcc521 0 _ rfl
                        rw [Nat.add_zero, show ((Kd.slice 3 (Kd.int .i64))).sz = 1 from rfl, Nat.mul_one] at hv521_0
                        replace hv521_0 := Option.some.inj (hv521_0.symm.trans hx521_0)
                        injection hv521_0 with hva_ hvn_ hvc_
                        rw [hva_] at ge521_0
                        rw [hvc_] at ul521_0
                        have HL521_0 := Aside0.mk (show Kd.V (Kd.int .i64) 3 _ w.heap.size _ _ (rd_L1 t504 x14_5) from Kd.V_mk ul521_0 ge521_0)
                        clear hva_ hvn_ hvc_ ge521_0 ul521_0 hcc521 hce521
                        have HR521_0 := Aside0.mk hi521_0
                        have HC521_0 := Aside0.mk hl521_0
                        clear hi521_0 hl521_0
                        replace p521 := eq_true p521
                        replace q521 := eq_true q521
                        refine start_ (n := 22) (S := fun w' => w'.cell? (ad518.add (x14_5).toNat) = some (.slice A518_0 (rd_L1 t513 x14_5).length c518_0) ∧ w'.cell? (ad518.add (x14_5).toNat) = some (.slice A518_0 (rd_L1 t513 x14_5).length c518_0) ∧ w'.cell? (ad521.add (x14_5).toNat) = some (.slice A521_0 (rd_L1 t504 x14_5).length c521_0)) (ds := []) L4_0 (by kernel_rfl) rfl rfl ⟨hx518_0, hx520_0, hx521_0⟩ (fun hHeld => ?_); refine with_tabW fullerlaw11_InferCuts.tab17 fullerlaw11_InferCuts.bits17 (fun HT_ HW_ => ?_)
                        generalize wr.drew = w46 at HO_6 HO_11 HB HL518_0 HL520_0 HL521_0 HR518_0 HR520_0 HR521_0 hx518_0 hx520_0 hx521_0 hHeld ⊢
                        refine pu_ 0 (some 94) L4_1 HT_ ?_
                        refine pu_ 1 (some 95) L4_2 HT_ ?_
                        refine pu_ 2 (some 96) L4_3 HT_ ?_
                        refine ta_ 3 (some 97) L4_4 HT_ HW_ hHeld ?_ (hy := by rintro w' ⟨s0, s1, s2⟩; go_simp; with_reducible rfl)
                        refine one_ (i := 4) (N := some 98) L4_5 rfl rfl (one_of HT_.out (by kernel_rfl)) (by decide) (fun K hK => ?_)
                        refine goes_ Try.func18 (by kernel_rfl) rfl #[.slice A518_0 (rd_L1 t513 x14_5).length c518_0] (by rfl) rfl rfl (by (try simp only [List.map_toArray, List.map_cons, List.map_nil]); first | done | rfl | (simp only [List.length_drop, List.length_take]; rfl)) ?_
                        with_reducible refine (shape_Check.calls k5 _ _ (rd_L1 t513 x14_5) true _ ?side1 ?side2 A40.out).mono ?_
                        (case side1 => repeat (first | exact (by repeat (first | (with_reducible exact HR518_0.out) | (with_reducible refine Kd.C_alloc ?_ _) | (with_reducible refine Kd.C_drewN ?_ _) | (with_reducible refine Kd.C_drew ?_) | exact HR518_0.out)) | (with_reducible refine Kd.C_alloc ?_ _) | (with_reducible refine Kd.C_drewN ?_ _) | (with_reducible refine Kd.C_drew ?_)))
                        (case side2 => exact HC518_0.out)
                        rintro e w' ⟨rfl, ⟨nd, rfl⟩⟩
                        refine ⟨_, rfl, ?_⟩
                        obtain ⟨Ao48, co48, eo48⟩ := Kd.N_slice HO_6.out
                        (first | subst eo48 | (injection eo48 with f1_ f2_ f3_; have f4_ := f1_.symm; have f5_ := f3_.symm; clear f1_ f2_ f3_; subst f4_; subst f5_))
                        refine hK.out _ _ ⟨hHeld.1, hHeld.2.1, hHeld.2.2⟩ (fun hHeld => ?_)
                        clear hK K
                        refine norm_ (a' := ?_) ?_ ?_
                        rotate_left
                        ·show Act.put _ (some 98) _ = _
                         simp only [Act.put, sA_, sB_, sC_, i64_w, i32_w]
                         rfl
                        refine pu_ 5 (some 99) L4_6 HT_ ?_
                        refine pu_ 6 (some 100) L4_7 HT_ ?_
                        refine pu_ 7 (some 101) L4_8 HT_ ?_
                        refine pu_ 8 (some 102) L4_9 HT_ ?_
                        refine pu_ 9 (some 103) L4_10 HT_ ?_
                        refine pu_ 10 (some 104) L4_11 HT_ ?_
                        refine pu_ 11 (some 105) L4_12 HT_ ?_
                        refine pu_ 12 (some 106) L4_13 HT_ ?_
                        refine pu_ 14 (some 108) L4_14 HT_ ?_
                        refine pu_ 15 (some 109) L4_15 HT_ ?_
                        refine pu_ 16 (some 110) L4_16 HT_ ?_
                        refine ta_ 13 (some 107) L4_17 HT_ HW_ hHeld ?_ (hy := by rintro w' ⟨s0, s1, s2⟩; go_simp; with_reducible rfl)
                        refine ta_ 17 (some 111) L4_18 HT_ HW_ hHeld ?_ (hy := by rintro w' ⟨s0, s1, s2⟩; go_simp; with_reducible rfl)
                        refine one_ (i := 18) (N := some 112) L4_19 rfl rfl (one_of HT_.out (by kernel_rfl)) (by decide) (fun K hK => ?_)
                        refine goes_ Try.func15 (by kernel_rfl) rfl #[.slice A518_0 (rd_L1 t513 x14_5).length c518_0, .slice A521_0 (rd_L1 t504 x14_5).length c521_0] (by rfl) rfl rfl (by (try simp only [List.map_toArray, List.map_cons, List.map_nil]); first | done | rfl | (simp only [List.length_drop, List.length_take]; rfl)) ?_
                        with_reducible refine (fullerref02_Same.calls k5 _ _ (rd_L1 t513 x14_5) _ _ (rd_L1 t504 x14_5) true _ ?side1 ?side2 ?side3 ?side4 A44.out).mono ?_
                        (case side1 => repeat (first | exact (by repeat (first | (with_reducible exact HR520_0.out) | (with_reducible refine Kd.C_alloc ?_ _) | (with_reducible refine Kd.C_drewN ?_ _) | (with_reducible refine Kd.C_drew ?_) | exact HR520_0.out)) | (with_reducible refine Kd.C_alloc ?_ _) | (with_reducible refine Kd.C_drewN ?_ _) | (with_reducible refine Kd.C_drew ?_)))
                        (case side2 => exact HC520_0.out)
                        (case side3 => repeat (first | exact (by repeat (first | (with_reducible exact HR521_0.out) | (with_reducible refine Kd.C_alloc ?_ _) | (with_reducible refine Kd.C_drewN ?_ _) | (with_reducible refine Kd.C_drew ?_) | exact HR521_0.out)) | (with_reducible refine Kd.C_alloc ?_ _) | (with_reducible refine Kd.C_drewN ?_ _) | (with_reducible refine Kd.C_drew ?_)))
                        (case side4 => exact HC521_0.out)
                        rintro e w' ⟨rfl, ⟨nd, rfl⟩⟩
                        refine ⟨_, rfl, ?_⟩
                        refine hK.out _ _ ⟨hHeld.1, hHeld.2.1, hHeld.2.2⟩ (fun hHeld => ?_)
                        clear hK K
                        refine norm_ (a' := ?_) ?_ ?_
                        rotate_left
                        ·show Act.put _ (some 112) _ = _
                         simp only [Act.put, sA_, sB_, sC_, i64_w, i32_w]
                         rfl
                        refine pu_ 19 (some 113) L4_20 HT_ ?_
                        refine pu_ 20 (some 114) L4_21 HT_ ?_
                        refine pu_ 21 (some 115) L4_22 HT_ ?_
                        refine done_ (done_of HT_.out (by kernel_rfl)) ?_
                        try go_wp2
                        go_roundg k5
                        case measure => have := HJ3.out; have := HJ11.out; have := HJ14.out; have := HJ25.out; have := HK5.out; omega
                        case rel => exact ⟨(wrap64 (x14_5 + 1)), (by first | rfl | (simp; done) | (simp [*]; done)), H', ⟨by have := HJ3.out; have := HJ11.out; have := HJ14.out; have := HJ25.out; have := HK5.out; omega⟩, ⟨mvN_ HO_6.out⟩, ⟨mvN_ HO_11.out⟩, ⟨bq0_ HB.out⟩⟩
                       ·replace c45 := Bool.eq_false_iff.mpr c45
                        subst c45
                        have H1 : (some false) = some r := by rw [if_neg (show ¬ (false = true) by decide)] at H; exact H
                        clear H
                        have H := H1
                        clear H1
                        obtain rfl := Option.some.inj H
                        try go_wp2
                        replace HO_6 := Aside0.mk (Kd.N_drew HO_6.out)
                        replace HO_11 := Aside0.mk (Kd.N_drew HO_11.out)
                        replace HB := Aside0.mk (below_drew1 HB.out)
                        obtain ⟨Ao50, co50, eo50⟩ := Kd.N_slice HO_11.out
                        (first | subst eo50 | (injection eo50 with f1_ f2_ f3_; have f4_ := f1_.symm; have f5_ := f3_.symm; clear f1_ f2_ f3_; subst f4_; subst f5_))
                        have p518 : 0 ≤ (x14_5 : Int) := od_
                        have q518 : x14_5 < (t513.length : Int) := od_
                        obtain ⟨ad518, A518_0, c518_0, e518, hx518_0, hl518_0, hi518_0⟩ := at_L1 (Kd.N_reads' HO_11.out).2.2 x14_5 p518 q518
                        cases e518
                        obtain ⟨ce518, hce518, hMe518, hcc518⟩ := Kd.N_get HO_11.out [] x14_5 p518 (by first | exact q518 | exact od_ | (have e_ := (Kd.N_reads' HO_11.out).1; omega))
                        obtain ⟨ua518_0, uc518_0, rfl, ul518_0, ge518_0⟩ := Kd.FK_slice_open hMe518
                        have hv518_0 := hcc518 0 _ rfl
                        rw [Nat.add_zero, show ((Kd.slice 3 (Kd.int .i64))).sz = 1 from rfl, Nat.mul_one] at hv518_0
                        replace hv518_0 := Option.some.inj (hv518_0.symm.trans hx518_0)
                        injection hv518_0 with hva_ hvn_ hvc_
                        rw [hva_] at ge518_0
                        rw [hvc_] at ul518_0
                        have HL518_0 := Aside0.mk (show Kd.V (Kd.int .i64) 3 _ w.heap.size _ _ (rd_L1 t513 x14_5) from Kd.V_mk ul518_0 ge518_0)
                        clear hva_ hvn_ hvc_ ge518_0 ul518_0 hcc518 hce518
                        have HR518_0 := Aside0.mk hi518_0
                        have HC518_0 := Aside0.mk hl518_0
                        clear hi518_0 hl518_0
                        replace p518 := eq_true p518
                        replace q518 := eq_true q518
                        have p520 : 0 ≤ (x14_5 : Int) := od_
                        have q520 : x14_5 < (t513.length : Int) := od_
                        obtain ⟨ad520, A520_0, c520_0, e520, hx520_0, hl520_0, hi520_0⟩ := at_L1 (Kd.N_reads' HO_11.out).2.2 x14_5 p520 q520
                        obtain rfl : ad518 = ad520 := (by injection e520)
                        obtain ⟨ce520, hce520, hMe520, hcc520⟩ := Kd.N_get HO_11.out [] x14_5 p520 (by first | exact q520 | exact od_ | (have e_ := (Kd.N_reads' HO_11.out).1; omega))
                        obtain ⟨ua520_0, uc520_0, rfl, ul520_0, ge520_0⟩ := Kd.FK_slice_open hMe520
                        have hv520_0 := hcc520 0 _ rfl
                        rw [Nat.add_zero, show ((Kd.slice 3 (Kd.int .i64))).sz = 1 from rfl, Nat.mul_one] at hv520_0
                        replace hv520_0 := Option.some.inj (hv520_0.symm.trans hx520_0)
                        injection hv520_0 with hva_ hvn_ hvc_
                        rw [hva_] at ge520_0
                        rw [hvc_] at ul520_0
                        have HL520_0 := Aside0.mk (show Kd.V (Kd.int .i64) 3 _ w.heap.size _ _ (rd_L1 t513 x14_5) from Kd.V_mk ul520_0 ge520_0)
                        clear hva_ hvn_ hvc_ ge520_0 ul520_0 hcc520 hce520
                        have HR520_0 := Aside0.mk hi520_0
                        have HC520_0 := Aside0.mk hl520_0
                        clear hi520_0 hl520_0
                        replace p520 := eq_true p520
                        replace q520 := eq_true q520
                        have ea_ := Option.some.inj (hx518_0.symm.trans hx520_0)
                        injection ea_ with ea_ en_ ec_
                        subst ea_
                        subst ec_
                        clear en_
                        have p521 : 0 ≤ (x14_5 : Int) := od_
                        have q521 : x14_5 < (t504.length : Int) := od_
                        obtain ⟨Aq51, cq51, eq51⟩ := Kd.N_slice HO_6.out
                        subst eq51
                        obtain ⟨ad521, A521_0, c521_0, e521, hx521_0, hl521_0, hi521_0⟩ := at_L1 (Kd.N_reads' HO_6.out).2.2 x14_5 p521 q521
                        cases e521
                        obtain ⟨ce521, hce521, hMe521, hcc521⟩ := Kd.N_get HO_6.out [] x14_5 p521 (by first | exact q521 | exact od_ | (have e_ := (Kd.N_reads' HO_6.out).1; omega))
                        obtain ⟨ua521_0, uc521_0, rfl, ul521_0, ge521_0⟩ := Kd.FK_slice_open hMe521
                        have hv521_0 := hcc521 0 _ rfl
                        rw [Nat.add_zero, show ((Kd.slice 3 (Kd.int .i64))).sz = 1 from rfl, Nat.mul_one] at hv521_0
                        replace hv521_0 := Option.some.inj (hv521_0.symm.trans hx521_0)
                        injection hv521_0 with hva_ hvn_ hvc_
                        rw [hva_] at ge521_0
                        rw [hvc_] at ul521_0
                        have HL521_0 := Aside0.mk (show Kd.V (Kd.int .i64) 3 _ w.heap.size _ _ (rd_L1 t504 x14_5) from Kd.V_mk ul521_0 ge521_0)
                        clear hva_ hvn_ hvc_ ge521_0 ul521_0 hcc521 hce521
                        have HR521_0 := Aside0.mk hi521_0
                        have HC521_0 := Aside0.mk hl521_0
                        clear hi521_0 hl521_0
                        replace p521 := eq_true p521
                        replace q521 := eq_true q521
                        refine start_ (n := 22) (S := fun w' => w'.cell? (ad518.add (x14_5).toNat) = some (.slice A518_0 (rd_L1 t513 x14_5).length c518_0) ∧ w'.cell? (ad518.add (x14_5).toNat) = some (.slice A518_0 (rd_L1 t513 x14_5).length c518_0) ∧ w'.cell? (ad521.add (x14_5).toNat) = some (.slice A521_0 (rd_L1 t504 x14_5).length c521_0)) (ds := []) L4_0 (by kernel_rfl) rfl rfl ⟨hx518_0, hx520_0, hx521_0⟩ (fun hHeld => ?_); refine with_tabW fullerlaw11_InferCuts.tab17 fullerlaw11_InferCuts.bits17 (fun HT_ HW_ => ?_)
                        generalize wr.drew = w49 at HO_6 HO_11 HB HL518_0 HL520_0 HL521_0 HR518_0 HR520_0 HR521_0 hx518_0 hx520_0 hx521_0 hHeld ⊢
                        refine pu_ 0 (some 94) L4_1 HT_ ?_
                        refine pu_ 1 (some 95) L4_2 HT_ ?_
                        refine pu_ 2 (some 96) L4_3 HT_ ?_
                        refine ta_ 3 (some 97) L4_4 HT_ HW_ hHeld ?_ (hy := by rintro w' ⟨s0, s1, s2⟩; go_simp; with_reducible rfl)
                        refine one_ (i := 4) (N := some 98) L4_5 rfl rfl (one_of HT_.out (by kernel_rfl)) (by decide) (fun K hK => ?_)
                        refine goes_ Try.func18 (by kernel_rfl) rfl #[.slice A518_0 (rd_L1 t513 x14_5).length c518_0] (by rfl) rfl rfl (by (try simp only [List.map_toArray, List.map_cons, List.map_nil]); first | done | rfl | (simp only [List.length_drop, List.length_take]; rfl)) ?_
                        with_reducible refine (shape_Check.calls k5 _ _ (rd_L1 t513 x14_5) true _ ?side1 ?side2 A40.out).mono ?_
                        (case side1 => repeat (first | exact (by repeat (first | (with_reducible exact HR518_0.out) | (with_reducible refine Kd.C_alloc ?_ _) | (with_reducible refine Kd.C_drewN ?_ _) | (with_reducible refine Kd.C_drew ?_) | exact HR518_0.out)) | (with_reducible refine Kd.C_alloc ?_ _) | (with_reducible refine Kd.C_drewN ?_ _) | (with_reducible refine Kd.C_drew ?_)))
                        (case side2 => exact HC518_0.out)
                        rintro e w' ⟨rfl, ⟨nd, rfl⟩⟩
                        refine ⟨_, rfl, ?_⟩
                        obtain ⟨Ao51, co51, eo51⟩ := Kd.N_slice HO_6.out
                        (first | subst eo51 | (injection eo51 with f1_ f2_ f3_; have f4_ := f1_.symm; have f5_ := f3_.symm; clear f1_ f2_ f3_; subst f4_; subst f5_))
                        refine hK.out _ _ ⟨hHeld.1, hHeld.2.1, hHeld.2.2⟩ (fun hHeld => ?_)
                        clear hK K
                        refine norm_ (a' := ?_) ?_ ?_
                        rotate_left
                        ·show Act.put _ (some 98) _ = _
                         simp only [Act.put, sA_, sB_, sC_, i64_w, i32_w]
                         rfl
                        refine pu_ 5 (some 99) L4_6 HT_ ?_
                        refine pu_ 6 (some 100) L4_7 HT_ ?_
                        refine pu_ 7 (some 101) L4_8 HT_ ?_
                        refine pu_ 8 (some 102) L4_9 HT_ ?_
                        refine pu_ 9 (some 103) L4_10 HT_ ?_
                        refine pu_ 10 (some 104) L4_11 HT_ ?_
                        refine pu_ 11 (some 105) L4_12 HT_ ?_
                        refine pu_ 12 (some 106) L4_13 HT_ ?_
                        refine pu_ 14 (some 108) L4_14 HT_ ?_
                        refine pu_ 15 (some 109) L4_15 HT_ ?_
                        refine pu_ 16 (some 110) L4_16 HT_ ?_
                        refine ta_ 13 (some 107) L4_17 HT_ HW_ hHeld ?_ (hy := by rintro w' ⟨s0, s1, s2⟩; go_simp; with_reducible rfl)
                        refine ta_ 17 (some 111) L4_18 HT_ HW_ hHeld ?_ (hy := by rintro w' ⟨s0, s1, s2⟩; go_simp; with_reducible rfl)
                        refine one_ (i := 18) (N := some 112) L4_19 rfl rfl (one_of HT_.out (by kernel_rfl)) (by decide) (fun K hK => ?_)
                        refine goes_ Try.func15 (by kernel_rfl) rfl #[.slice A518_0 (rd_L1 t513 x14_5).length c518_0, .slice A521_0 (rd_L1 t504 x14_5).length c521_0] (by rfl) rfl rfl (by (try simp only [List.map_toArray, List.map_cons, List.map_nil]); first | done | rfl | (simp only [List.length_drop, List.length_take]; rfl)) ?_
                        with_reducible refine (fullerref02_Same.calls k5 _ _ (rd_L1 t513 x14_5) _ _ (rd_L1 t504 x14_5) false _ ?side1 ?side2 ?side3 ?side4 A44.out).mono ?_
                        (case side1 => repeat (first | exact (by repeat (first | (with_reducible exact HR520_0.out) | (with_reducible refine Kd.C_alloc ?_ _) | (with_reducible refine Kd.C_drewN ?_ _) | (with_reducible refine Kd.C_drew ?_) | exact HR520_0.out)) | (with_reducible refine Kd.C_alloc ?_ _) | (with_reducible refine Kd.C_drewN ?_ _) | (with_reducible refine Kd.C_drew ?_)))
                        (case side2 => exact HC520_0.out)
                        (case side3 => repeat (first | exact (by repeat (first | (with_reducible exact HR521_0.out) | (with_reducible refine Kd.C_alloc ?_ _) | (with_reducible refine Kd.C_drewN ?_ _) | (with_reducible refine Kd.C_drew ?_) | exact HR521_0.out)) | (with_reducible refine Kd.C_alloc ?_ _) | (with_reducible refine Kd.C_drewN ?_ _) | (with_reducible refine Kd.C_drew ?_)))
                        (case side4 => exact HC521_0.out)
                        rintro e w' ⟨rfl, ⟨nd, rfl⟩⟩
                        refine ⟨_, rfl, ?_⟩
                        refine hK.out _ _ ⟨hHeld.1, hHeld.2.1, hHeld.2.2⟩ (fun hHeld => ?_)
                        clear hK K
                        refine norm_ (a' := ?_) ?_ ?_
                        rotate_left
                        ·show Act.put _ (some 112) _ = _
                         simp only [Act.put, sA_, sB_, sC_, i64_w, i32_w]
                         rfl
                        refine pu_ 19 (some 113) L4_20 HT_ ?_
                        refine pu_ 20 (some 114) L4_21 HT_ ?_
                        refine pu_ 21 (some 115) L4_22 HT_ ?_
                        refine done_ (done_of HT_.out (by kernel_rfl)) ?_
                        try go_wp2
                        go_ret
                        exact ⟨by first | rfl | (simp [errW_none, errW_some] <;> rfl) | (simp only [← hji22]; first | rfl | (simp [errW_none, errW_some] <;> rfl)) | (simp [*, errW_none, errW_some] <;> rfl), bq0_ HB.out⟩
                      ·rw [if_neg c43] at H
                       exact absurd H (by simp)
                     ·rw [if_neg c42] at H
                      have c42b0 : (t508 == 0) = false := beq_eq_false_iff_ne.mpr c42
                      have c42b1 : (t508 != 0) = true := bne_iff_ne.mpr c42
                      have H' := Aside0.mk H
                      clear H
                      try go_wp2
                      replace HO_6 := Aside0.mk (Kd.N_drew HO_6.out)
                      replace HO_11 := Aside0.mk (Kd.N_drew HO_11.out)
                      replace HB := Aside0.mk (below_drew1 HB.out)
                      obtain ⟨Ao53, co53, eo53⟩ := Kd.N_slice HO_11.out
                      (first | subst eo53 | (injection eo53 with f1_ f2_ f3_; have f4_ := f1_.symm; have f5_ := f3_.symm; clear f1_ f2_ f3_; subst f4_; subst f5_))
                      have p518 : 0 ≤ (x14_5 : Int) := od_
                      have q518 : x14_5 < (t513.length : Int) := od_
                      obtain ⟨ad518, A518_0, c518_0, e518, hx518_0, hl518_0, hi518_0⟩ := at_L1 (Kd.N_reads' HO_11.out).2.2 x14_5 p518 q518
                      cases e518
                      obtain ⟨ce518, hce518, hMe518, hcc518⟩ := Kd.N_get HO_11.out [] x14_5 p518 (by first | exact q518 | exact od_ | (have e_ := (Kd.N_reads' HO_11.out).1; omega))
                      obtain ⟨ua518_0, uc518_0, rfl, ul518_0, ge518_0⟩ := Kd.FK_slice_open hMe518
                      have hv518_0 := hcc518 0 _ rfl
                      rw [Nat.add_zero, show ((Kd.slice 3 (Kd.int .i64))).sz = 1 from rfl, Nat.mul_one] at hv518_0
                      replace hv518_0 := Option.some.inj (hv518_0.symm.trans hx518_0)
                      injection hv518_0 with hva_ hvn_ hvc_
                      rw [hva_] at ge518_0
                      rw [hvc_] at ul518_0
                      have HL518_0 := Aside0.mk (show Kd.V (Kd.int .i64) 3 _ w.heap.size _ _ (rd_L1 t513 x14_5) from Kd.V_mk ul518_0 ge518_0)
                      clear hva_ hvn_ hvc_ ge518_0 ul518_0 hcc518 hce518
                      have HR518_0 := Aside0.mk hi518_0
                      have HC518_0 := Aside0.mk hl518_0
                      clear hi518_0 hl518_0
                      replace p518 := eq_true p518
                      replace q518 := eq_true q518
                      refine start_ (n := 22) (S := fun w' => w'.cell? (ad518.add (x14_5).toNat) = some (.slice A518_0 (rd_L1 t513 x14_5).length c518_0)) (ds := []) L4_0 (by kernel_rfl) rfl rfl (hx518_0) (fun hHeld => ?_); refine with_tabW fullerlaw11_InferCuts.tab17 fullerlaw11_InferCuts.bits17 (fun HT_ HW_ => ?_)
                      generalize wr.drew = w52 at HO_6 HO_11 HB HL518_0 HR518_0 hx518_0 hHeld ⊢
                      refine pu_ 0 (some 94) L4_1 HT_ ?_
                      refine pu_ 1 (some 95) L4_2 HT_ ?_
                      refine pu_ 2 (some 96) L4_3 HT_ ?_
                      refine ta_ 3 (some 97) L4_4 HT_ HW_ hHeld ?_ (hy := by intro w' s0; go_simp; with_reducible rfl)
                      refine one_ (i := 4) (N := some 98) L4_5 rfl rfl (one_of HT_.out (by kernel_rfl)) (by decide) (fun K hK => ?_)
                      refine goes_ Try.func18 (by kernel_rfl) rfl #[.slice A518_0 (rd_L1 t513 x14_5).length c518_0] (by rfl) rfl rfl (by (try simp only [List.map_toArray, List.map_cons, List.map_nil]); first | done | rfl | (simp only [List.length_drop, List.length_take]; rfl)) ?_
                      with_reducible refine (shape_Check.calls k5 _ _ (rd_L1 t513 x14_5) true _ ?side1 ?side2 A40.out).mono ?_
                      (case side1 => repeat (first | exact (by repeat (first | (with_reducible exact HR518_0.out) | (with_reducible refine Kd.C_alloc ?_ _) | (with_reducible refine Kd.C_drewN ?_ _) | (with_reducible refine Kd.C_drew ?_) | exact HR518_0.out)) | (with_reducible refine Kd.C_alloc ?_ _) | (with_reducible refine Kd.C_drewN ?_ _) | (with_reducible refine Kd.C_drew ?_)))
                      (case side2 => exact HC518_0.out)
                      rintro e w' ⟨rfl, ⟨nd, rfl⟩⟩
                      refine ⟨_, rfl, ?_⟩
                      refine hK.out _ _ (hHeld) (fun hHeld => ?_)
                      clear hK K
                      refine norm_ (a' := ?_) ?_ ?_
                      rotate_left
                      ·show Act.put _ (some 98) _ = _
                       simp only [Act.put, sA_, sB_, sC_, i64_w, i32_w]
                       rfl
                      refine pu_ 5 (some 99) L4_6 HT_ ?_
                      refine pu_ 6 (some 100) L4_7 HT_ ?_
                      refine pu_ 7 (some 101) L4_8 HT_ ?_
                      refine pu_ 8 (some 102) L4_9 HT_ ?_
                      refine pu_ 9 (some 103) L4_10 HT_ ?_
                      refine skips_ (fuel := 2) (m := 12) HT_.out (fun _ _ _ _ _ h => h) [(10, 104), (11, 105), (12, 106), (13, 107), (14, 108), (15, 109), (16, 110), (17, 111), (18, 112), (19, 113)] L4_20 rfl (by kernel_rfl) (by kernel_rfl) (a' := ?_) ?_ ?_
                      rotate_left
                      ·simp only [putU, Act.put, sA_, sB_, sC_]
                       rfl
                      refine pu_ 20 (some 114) L4_21 HT_ ?_
                      refine pu_ 21 (some 115) L4_22 HT_ ?_
                      refine done_ (done_of HT_.out (by kernel_rfl)) ?_
                      try go_wp2
                      go_roundg k5
                      case measure => have := HJ3.out; have := HJ11.out; have := HJ14.out; have := HJ25.out; have := HK5.out; omega
                      case rel => exact ⟨(wrap64 (x14_5 + 1)), (by first | rfl | (simp; done) | (simp [*]; done)), H', ⟨by have := HJ3.out; have := HJ11.out; have := HJ14.out; have := HJ25.out; have := HK5.out; omega⟩, ⟨mvN_ HO_6.out⟩, ⟨mvN_ HO_11.out⟩, ⟨bq0_ HB.out⟩⟩
                    ·replace c41 := Bool.eq_false_iff.mpr c41
                     subst c41
                     have H1 : (some false) = some r := by rw [if_neg (show ¬ (false = true) by decide)] at H; exact H
                     clear H
                     have H := H1
                     clear H1
                     obtain rfl := Option.some.inj H
                     try go_wp2
                     replace HO_6 := Aside0.mk (Kd.N_drew HO_6.out)
                     replace HO_11 := Aside0.mk (Kd.N_drew HO_11.out)
                     replace HB := Aside0.mk (below_drew1 HB.out)
                     obtain ⟨Ao55, co55, eo55⟩ := Kd.N_slice HO_11.out
                     (first | subst eo55 | (injection eo55 with f1_ f2_ f3_; have f4_ := f1_.symm; have f5_ := f3_.symm; clear f1_ f2_ f3_; subst f4_; subst f5_))
                     have p518 : 0 ≤ (x14_5 : Int) := od_
                     have q518 : x14_5 < (t513.length : Int) := od_
                     obtain ⟨ad518, A518_0, c518_0, e518, hx518_0, hl518_0, hi518_0⟩ := at_L1 (Kd.N_reads' HO_11.out).2.2 x14_5 p518 q518
                     cases e518
                     obtain ⟨ce518, hce518, hMe518, hcc518⟩ := Kd.N_get HO_11.out [] x14_5 p518 (by first | exact q518 | exact od_ | (have e_ := (Kd.N_reads' HO_11.out).1; omega))
                     obtain ⟨ua518_0, uc518_0, rfl, ul518_0, ge518_0⟩ := Kd.FK_slice_open hMe518
                     have hv518_0 := hcc518 0 _ rfl
                     rw [Nat.add_zero, show ((Kd.slice 3 (Kd.int .i64))).sz = 1 from rfl, Nat.mul_one] at hv518_0
                     replace hv518_0 := Option.some.inj (hv518_0.symm.trans hx518_0)
                     injection hv518_0 with hva_ hvn_ hvc_
                     rw [hva_] at ge518_0
                     rw [hvc_] at ul518_0
                     have HL518_0 := Aside0.mk (show Kd.V (Kd.int .i64) 3 _ w.heap.size _ _ (rd_L1 t513 x14_5) from Kd.V_mk ul518_0 ge518_0)
                     clear hva_ hvn_ hvc_ ge518_0 ul518_0 hcc518 hce518
                     have HR518_0 := Aside0.mk hi518_0
                     have HC518_0 := Aside0.mk hl518_0
                     clear hi518_0 hl518_0
                     replace p518 := eq_true p518
                     replace q518 := eq_true q518
                     refine start_ (n := 22) (S := fun w' => w'.cell? (ad518.add (x14_5).toNat) = some (.slice A518_0 (rd_L1 t513 x14_5).length c518_0)) (ds := []) L4_0 (by kernel_rfl) rfl rfl (hx518_0) (fun hHeld => ?_); refine with_tabW fullerlaw11_InferCuts.tab17 fullerlaw11_InferCuts.bits17 (fun HT_ HW_ => ?_)
                     generalize wr.drew = w54 at HO_6 HO_11 HB HL518_0 HR518_0 hx518_0 hHeld ⊢
                     refine pu_ 0 (some 94) L4_1 HT_ ?_
                     refine pu_ 1 (some 95) L4_2 HT_ ?_
                     refine pu_ 2 (some 96) L4_3 HT_ ?_
                     refine ta_ 3 (some 97) L4_4 HT_ HW_ hHeld ?_ (hy := by intro w' s0; go_simp; with_reducible rfl)
                     refine one_ (i := 4) (N := some 98) L4_5 rfl rfl (one_of HT_.out (by kernel_rfl)) (by decide) (fun K hK => ?_)
                     refine goes_ Try.func18 (by kernel_rfl) rfl #[.slice A518_0 (rd_L1 t513 x14_5).length c518_0] (by rfl) rfl rfl (by (try simp only [List.map_toArray, List.map_cons, List.map_nil]); first | done | rfl | (simp only [List.length_drop, List.length_take]; rfl)) ?_
                     with_reducible refine (shape_Check.calls k5 _ _ (rd_L1 t513 x14_5) false _ ?side1 ?side2 A40.out).mono ?_
                     (case side1 => repeat (first | exact (by repeat (first | (with_reducible exact HR518_0.out) | (with_reducible refine Kd.C_alloc ?_ _) | (with_reducible refine Kd.C_drewN ?_ _) | (with_reducible refine Kd.C_drew ?_) | exact HR518_0.out)) | (with_reducible refine Kd.C_alloc ?_ _) | (with_reducible refine Kd.C_drewN ?_ _) | (with_reducible refine Kd.C_drew ?_)))
                     (case side2 => exact HC518_0.out)
                     rintro e w' ⟨rfl, ⟨nd, rfl⟩⟩
                     refine ⟨_, rfl, ?_⟩
                     refine hK.out _ _ (hHeld) (fun hHeld => ?_)
                     clear hK K
                     refine norm_ (a' := ?_) ?_ ?_
                     rotate_left
                     ·show Act.put _ (some 98) _ = _
                      simp only [Act.put, sA_, sB_, sC_, i64_w, i32_w]
                      rfl
                     refine pu_ 5 (some 99) L4_6 HT_ ?_
                     refine pu_ 6 (some 100) L4_7 HT_ ?_
                     refine skips_ (fuel := 1) (m := 15) HT_.out (fun _ _ _ _ _ h => h) [(7, 101), (8, 102), (9, 103), (10, 104), (11, 105), (12, 106), (13, 107), (14, 108), (15, 109), (16, 110), (17, 111), (18, 112), (19, 113), (20, 114)] L4_21 rfl (by kernel_rfl) (by kernel_rfl) (a' := ?_) ?_ ?_
                     rotate_left
                     ·simp only [putU, Act.put, sA_, sB_, sC_]
                      rfl
                     refine pu_ 21 (some 115) L4_22 HT_ ?_
                     refine done_ (done_of HT_.out (by kernel_rfl)) ?_
                     try go_wp2
                     go_ret
                     exact ⟨by first | rfl | (simp [errW_none, errW_some] <;> rfl) | (simp only [← hji22]; first | rfl | (simp [errW_none, errW_some] <;> rfl)) | (simp [*, errW_none, errW_some] <;> rfl), bq0_ HB.out⟩
                   ·rw [if_neg c39] at H
                    exact absurd H (by simp)
                  ·rw [if_neg c38] at H
                   exact absurd H (by simp)
                 ·rw [if_neg c37] at H
                  have c37b0 : decide (x14_5 < ji22) = false := decide_eq_false c37
                  clear c37
                  obtain rfl := Option.some.inj H
                  go_wp2
                  go_ret
                  exact ⟨by first | rfl | (simp [errW_none, errW_some] <;> rfl) | (simp only [← hji22]; first | rfl | (simp [errW_none, errW_some] <;> rfl)) | (simp [*, errW_none, errW_some] <;> rfl), bq0_ HB.out⟩
           ·rw [if_neg c24] at H
            exact absurd H (by simp)
          ·rw [if_neg c23] at H
           exact absurd H (by simp)

/-- THE ONE PURE STATEMENT of fullerlaw11_InferCuts: yours. -/
def fullerlaw11_InferCuts.Pure : Prop := ∀ (l0 : List (S25)) (a1 : Int), (l0.length * 56 ≤ 140737488351232 ∧ ∀ x_ ∈ l0, OK25 x_) → ((Lit.int .u8 a1).wf = true) → ∃ k, fullerlaw11_InferCuts.f k l0 a1 = some true
theorem fullerlaw11_InferCuts.walk (P : fullerlaw11_InferCuts.Pure) (A0 : Option Addr) (c0 : Nat) (l0 : List (S25)) (a1 : Int) (w : World) (hr0 : Kd.C k25 w A0 l0.length l0) (hc0 : l0.length ≤ c0) (hg0 : l0.length * 56 ≤ 140737488351232 ∧ ∀ x_ ∈ l0, OK25 x_) (hg1 : (Lit.int .u8 a1).wf = true) :
  Calls Try.prog 4 #[.slice A0 l0.length c0, .int .u8 a1] w fun e w' => e = .returned (.bool true) ∧ Below w.heap.size w w' := by
 obtain ⟨k, h⟩ := P l0 a1 hg0 hg1
 refine (fullerlaw11_InferCuts.calls k _ _ l0 a1 true w hr0 hc0 h).mono ?_
 rintro e w' ⟨rfl, hd⟩
 exact ⟨rfl, hd⟩

end Go.Proofs.Ytalmgghhpgfgoaa.A
