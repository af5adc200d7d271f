/- Lean functions that answer as the Go functions do, and the proofs that they do; no conditions. Written by this session's own driver: a scratch copy of the kit's print with the session's additions (wip/xprint). -/
import Derived.Test.YtklnbfdoklcmfaaAx0
import Derived.Test.YtklnbfdoklcmfaaAx12
import Derived.Test.YtklnbfdoklcmfaaAx13
namespace Go.Proofs.Ytklnbfdoklcmfaa.A
open Go.RowKit Go.Proofs.YtklnbfdoklcmfaaW.PrintWords Go.Proofs.YtklnbfdoklcmfaaW.PrintLast Go.Proofs.YtklnbfdoklcmfaaW.PrintMore
attribute [local go_sem] max2_int min2_int max_two min_two max_three min_three max_four min_four   -- for this text's walks alone
set_option linter.unusedVariables false
set_option linter.unusedSimpArgs false

def L14_0 : Array Bool := #[false, false, false, false, false, false, false, false, false, false, false, false, false, false, false, false, false, false, false, false, false, false, false, false, false, false]
def L14_1 : Array Bool := #[true, false, false, false, false, false, false, false, false, false, false, false, false, false, false, false, false, false, false, false, false, false, false, false, false, false]
def L14_2 : Array Bool := #[true, true, false, false, false, false, false, false, false, false, false, false, false, false, false, false, false, false, false, false, false, false, false, false, false, false]
def L14_3 : Array Bool := #[true, true, true, false, false, false, false, false, false, false, false, false, false, false, false, false, false, false, false, false, false, false, false, false, false, false]
def L14_4 : Array Bool := #[true, true, true, true, false, false, false, false, false, false, false, false, false, false, false, false, false, false, false, false, false, false, false, false, false, false]
def L14_5 : Array Bool := #[true, true, true, true, true, false, false, false, false, false, false, false, false, false, false, false, false, false, false, false, false, false, false, false, false, false]
def L14_6 : Array Bool := #[true, true, true, true, true, true, false, false, false, false, false, false, false, false, false, false, false, false, false, false, false, false, false, false, false, false]
def L14_7 : Array Bool := #[true, true, true, true, true, true, true, false, false, false, false, false, false, false, false, false, false, false, false, false, false, false, false, false, false, false]
def L14_8 : Array Bool := #[true, true, true, true, true, true, true, true, false, false, false, false, false, false, false, false, false, false, false, false, false, false, false, false, false, false]
def L14_9 : Array Bool := #[true, true, true, true, true, true, true, true, true, true, true, true, true, true, true, true, true, true, true, true, true, false, false, false, false, false]
def L14_10 : Array Bool := #[true, true, true, true, true, true, true, true, true, true, true, true, true, true, true, true, true, true, true, true, true, true, false, false, false, false]
def L14_11 : Array Bool := #[true, true, true, true, true, true, true, true, true, true, true, true, true, true, true, true, true, true, true, true, true, true, true, false, false, false]
def L14_12 : Array Bool := #[true, true, true, true, true, true, true, true, true, true, true, true, true, true, true, true, true, true, true, true, true, true, true, true, true, false]
def L14_13 : Array Bool := #[true, true, true, true, true, true, true, true, true, true, true, true, true, true, true, true, true, true, true, true, true, true, true, true, true, true]
def L14_14 : Array Bool := #[true, true, true, true, true, true, true, true, true, false, false, false, false, false, false, false, false, false, false, false, false, false, false, false, false, false]
def L14_15 : Array Bool := #[true, true, true, true, true, true, true, true, true, true, false, false, false, false, false, false, false, false, false, false, false, false, false, false, false, false]
def L14_16 : Array Bool := #[true, true, true, true, true, true, true, true, true, true, true, false, false, false, false, false, false, false, false, false, false, false, false, false, false, false]
def L14_17 : Array Bool := #[true, true, true, true, true, true, true, true, true, true, true, true, false, false, false, false, false, false, false, false, false, false, false, false, false, false]
def L14_18 : Array Bool := #[true, true, true, true, true, true, true, true, true, true, true, true, false, false, true, false, false, false, false, false, false, false, false, false, false, false]
def L14_19 : Array Bool := #[true, true, true, true, true, true, true, true, true, true, true, true, false, false, true, true, false, false, false, false, false, false, false, false, false, false]
def L14_20 : Array Bool := #[true, true, true, true, true, true, true, true, true, true, true, true, false, false, true, true, true, false, false, false, false, false, false, false, false, false]
def L14_21 : Array Bool := #[true, true, true, true, true, true, true, true, true, true, true, true, false, false, true, true, true, true, false, false, false, false, false, false, false, false]
def L14_22 : Array Bool := #[true, true, true, true, true, true, true, true, true, true, true, true, true, false, true, true, true, true, false, false, false, false, false, false, false, false]
def L14_23 : Array Bool := #[true, true, true, true, true, true, true, true, true, true, true, true, true, true, true, true, true, true, false, false, false, false, false, false, false, false]
def L14_24 : Array Bool := #[true, true, true, true, true, true, true, true, true, true, true, true, true, true, true, true, true, true, true, false, false, false, false, false, false, false]
def L14_25 : Array Bool := #[true, true, true, true, true, true, true, true, true, true, true, true, true, true, true, true, true, true, true, true, false, false, false, false, false, false]
def L14_26 : Array Bool := #[true, true, true, true, true, true, true, true, true, true, true, true, true, true, true, true, true, true, true, true, true, true, true, true, false, false]
def L14_27 : Array Bool := #[false, false, false, false, false, false, false, false, false, false]
def L14_28 : Array Bool := #[true, false, false, false, false, false, false, false, false, false]
def L14_29 : Array Bool := #[true, true, false, false, false, false, false, false, false, false]
def L14_30 : Array Bool := #[true, true, true, false, false, false, false, false, false, false]
def L14_31 : Array Bool := #[true, true, true, false, true, false, false, false, false, false]
def L14_32 : Array Bool := #[true, true, true, false, true, true, false, false, false, false]
def L14_33 : Array Bool := #[true, true, true, false, true, true, true, false, false, false]
def L14_34 : Array Bool := #[true, true, true, true, true, true, true, false, false, false]
def L14_35 : Array Bool := #[true, true, true, true, true, true, true, true, false, false]
def L14_36 : Array Bool := #[true, true, true, true, true, true, true, true, true, false]
def L14_37 : Array Bool := #[true, true, true, true, true, true, true, true, true, true]
/-! ### fullerref10_Check: function 14 -/
mutual
def fullerref10_Check.j0 : Nat → List (S35) → Bool → Option (Bool)
 | 0, _, _ => none
 | k + 1, x0, x15 => if x15 = true then (some false) else (fullerref10_Check.l0 k x0 0)
def fullerref10_Check.l0 : Nat → List (S35) → Int → Option (Bool)
 | 0, _, _ => none
 | k + 1, x0, x3 => if x3 < (x0.length : Int) then (if 0 ≤ x3 then ((fullerref10_nums.f k ((rd_T35 x0 x3).f0) ((rd_T35 x0 x3).f1) ((rd_T35 x0 x3).f2)).bind fun t324 => ((fullerref10_Arity.f k ((rd_T35 x0 x3).f0)).bind fun t326 => (if t326 < 0 then (fullerref10_Check.j2 k x0 x3 true) else ((fullerref10_Arity.f k ((rd_T35 x0 x3).f0)).bind fun t329 => (if (((rd_T35 x0 x3).f1).length : Int) = t329 then (fullerref10_Check.j2 k x0 x3 (!t324)) else (fullerref10_Check.j2 k x0 x3 true)))))) else (none)) else (some true)
def fullerref10_Check.j2 : Nat → List (S35) → Int → Bool → Option (Bool)
 | 0, _, _, _ => none
 | k + 1, x0, x3, x52 => if x52 = true then (some false) else (fullerref10_Check.l1 k x0 x3 0)
def fullerref10_Check.l1 : Nat → List (S35) → Int → Int → Option (Bool)
 | 0, _, _, _ => none
 | k + 1, x0, x3, x5 => if 0 ≤ x3 then (if x3 < (x0.length : Int) then (if x5 < (((rd_T35 x0 x3).f1).length : Int) then (if 0 ≤ x5 then (if (rd ((rd_T35 x0 x3).f1) x5) < 0 then (some false) else (if (rd ((rd_T35 x0 x3).f1) x5) ≥ x3 then (some false) else (fullerref10_Check.l1 k x0 x3 (wrap64 (x5 + 1))))) else (none)) else (fullerref10_Check.l2 k x0 x3 0)) else (none)) else (none)
def fullerref10_Check.l2 : Nat → List (S35) → Int → Int → Option (Bool)
 | 0, _, _, _ => none
 | k + 1, x0, x3, x6 => if x6 < x3 then (if 0 ≤ x6 then (if x6 < (x0.length : Int) then (if 0 ≤ x3 then (if x3 < (x0.length : Int) then ((fullerref10_like.f k ((rd_T35 x0 x6).f0) ((rd_T35 x0 x6).f1) ((rd_T35 x0 x6).f2) ((rd_T35 x0 x3).f0) ((rd_T35 x0 x3).f1) ((rd_T35 x0 x3).f2)).bind fun t337 => (if t337 = true then (fullerref10_Check.l2 k x0 x3 (wrap64 (x6 + 1))) else (some false))) else (none)) else (none)) else (none)) else (none)) else (fullerref10_Check.l0 k x0 (wrap64 (x3 + 1)))
end
def fullerref10_Check.f (k : Nat) (l0 : List (S35)) : Option (Bool) := if (l0.length : Int) < 1 then (fullerref10_Check.j0 k l0 true) else (fullerref10_Check.j0 k l0 (decide ((l0.length : Int) > 24)))
theorem fullerref10_Check.mono_l : ∀ k, (∀ y0 y1, LeO (fullerref10_Check.j0 k y0 y1) (fullerref10_Check.j0 (k + 1) y0 y1)) ∧ (∀ y0 y1, LeO (fullerref10_Check.l0 k y0 y1) (fullerref10_Check.l0 (k + 1) y0 y1)) ∧ (∀ y0 y1 y2, LeO (fullerref10_Check.j2 k y0 y1 y2) (fullerref10_Check.j2 (k + 1) y0 y1 y2)) ∧ (∀ y0 y1 y2, LeO (fullerref10_Check.l1 k y0 y1 y2) (fullerref10_Check.l1 (k + 1) y0 y1 y2)) ∧ (∀ y0 y1 y2, LeO (fullerref10_Check.l2 k y0 y1 y2) (fullerref10_Check.l2 (k + 1) y0 y1 y2))
 | 0 => ⟨fun _ _ r h => by simp [fullerref10_Check.j0] at h, fun _ _ r h => by simp [fullerref10_Check.l0] at h, fun _ _ _ r h => by simp [fullerref10_Check.j2] at h, fun _ _ _ r h => by simp [fullerref10_Check.l1] at h, fun _ _ _ r h => by simp [fullerref10_Check.l2] at h⟩
 | k + 1 => by
  obtain ⟨ih0, ih1, ih2, ih3, ih4⟩ := fullerref10_Check.mono_l k
  refine ⟨?_, ?_, ?_, ?_, ?_⟩
  ·intro y0 y1
   unfold fullerref10_Check.j0
   repeat' first
   | (with_reducible exact ih0 _ _)
   | (with_reducible exact ih1 _ _)
   | (with_reducible exact ih2 _ _ _)
   | (with_reducible exact ih3 _ _ _)
   | (with_reducible exact ih4 _ _ _)
   | (with_reducible exact fullerref10_Arity.mono _ _)
   | (with_reducible exact fullerref10_like.mono _ _ _ _ _ _ _)
   | (with_reducible exact fullerref10_nums.mono _ _ _ _)
   | (with_reducible exact LeO.refl _)
   | (with_reducible exact LeO.none _)
   | (with_reducible refine LeO.ite ?_ ?_)
   | (with_reducible refine LeO.bind ?_ (fun _ => ?_))
   | exact ih0 _ _
   | exact ih1 _ _
   | exact ih2 _ _ _
   | exact ih3 _ _ _
   | exact ih4 _ _ _
   | exact fullerref10_Arity.mono _ _
   | exact fullerref10_like.mono _ _ _ _ _ _ _
   | exact fullerref10_nums.mono _ _ _ _
   | exact LeO.none _
   | refine LeO.ite ?_ ?_
   | refine LeO.bind ?_ (fun _ => ?_)
  ·intro y0 y1
   unfold fullerref10_Check.l0
   repeat' first
   | (with_reducible exact ih0 _ _)
   | (with_reducible exact ih1 _ _)
   | (with_reducible exact ih2 _ _ _)
   | (with_reducible exact ih3 _ _ _)
   | (with_reducible exact ih4 _ _ _)
   | (with_reducible exact fullerref10_Arity.mono _ _)
   | (with_reducible exact fullerref10_like.mono _ _ _ _ _ _ _)
   | (with_reducible exact fullerref10_nums.mono _ _ _ _)
   | (with_reducible exact LeO.refl _)
   | (with_reducible exact LeO.none _)
   | (with_reducible refine LeO.ite ?_ ?_)
   | (with_reducible refine LeO.bind ?_ (fun _ => ?_))
   | exact ih0 _ _
   | exact ih1 _ _
   | exact ih2 _ _ _
   | exact ih3 _ _ _
   | exact ih4 _ _ _
   | exact fullerref10_Arity.mono _ _
   | exact fullerref10_like.mono _ _ _ _ _ _ _
   | exact fullerref10_nums.mono _ _ _ _
   | exact LeO.none _
   | refine LeO.ite ?_ ?_
   | refine LeO.bind ?_ (fun _ => ?_)
  ·intro y0 y1 y2
   unfold fullerref10_Check.j2
   repeat' first
   | (with_reducible exact ih0 _ _)
   | (with_reducible exact ih1 _ _)
   | (with_reducible exact ih2 _ _ _)
   | (with_reducible exact ih3 _ _ _)
   | (with_reducible exact ih4 _ _ _)
   | (with_reducible exact fullerref10_Arity.mono _ _)
   | (with_reducible exact fullerref10_like.mono _ _ _ _ _ _ _)
   | (with_reducible exact fullerref10_nums.mono _ _ _ _)
   | (with_reducible exact LeO.refl _)
   | (with_reducible exact LeO.none _)
   | (with_reducible refine LeO.ite ?_ ?_)
   | (with_reducible refine LeO.bind ?_ (fun _ => ?_))
   | exact ih0 _ _
   | exact ih1 _ _
   | exact ih2 _ _ _
   | exact ih3 _ _ _
   | exact ih4 _ _ _
   | exact fullerref10_Arity.mono _ _
   | exact fullerref10_like.mono _ _ _ _ _ _ _
   | exact fullerref10_nums.mono _ _ _ _
   | exact LeO.none _
   | refine LeO.ite ?_ ?_
   | refine LeO.bind ?_ (fun _ => ?_)
  ·intro y0 y1 y2
   unfold fullerref10_Check.l1
   repeat' first
   | (with_reducible exact ih0 _ _)
   | (with_reducible exact ih1 _ _)
   | (with_reducible exact ih2 _ _ _)
   | (with_reducible exact ih3 _ _ _)
   | (with_reducible exact ih4 _ _ _)
   | (with_reducible exact fullerref10_Arity.mono _ _)
   | (with_reducible exact fullerref10_like.mono _ _ _ _ _ _ _)
   | (with_reducible exact fullerref10_nums.mono _ _ _ _)
   | (with_reducible exact LeO.refl _)
   | (with_reducible exact LeO.none _)
   | (with_reducible refine LeO.ite ?_ ?_)
   | (with_reducible refine LeO.bind ?_ (fun _ => ?_))
   | exact ih0 _ _
   | exact ih1 _ _
   | exact ih2 _ _ _
   | exact ih3 _ _ _
   | exact ih4 _ _ _
   | exact fullerref10_Arity.mono _ _
   | exact fullerref10_like.mono _ _ _ _ _ _ _
   | exact fullerref10_nums.mono _ _ _ _
   | exact LeO.none _
   | refine LeO.ite ?_ ?_
   | refine LeO.bind ?_ (fun _ => ?_)
  ·intro y0 y1 y2
   unfold fullerref10_Check.l2
   repeat' first
   | (with_reducible exact ih0 _ _)
   | (with_reducible exact ih1 _ _)
   | (with_reducible exact ih2 _ _ _)
   | (with_reducible exact ih3 _ _ _)
   | (with_reducible exact ih4 _ _ _)
   | (with_reducible exact fullerref10_Arity.mono _ _)
   | (with_reducible exact fullerref10_like.mono _ _ _ _ _ _ _)
   | (with_reducible exact fullerref10_nums.mono _ _ _ _)
   | (with_reducible exact LeO.refl _)
   | (with_reducible exact LeO.none _)
   | (with_reducible refine LeO.ite ?_ ?_)
   | (with_reducible refine LeO.bind ?_ (fun _ => ?_))
   | exact ih0 _ _
   | exact ih1 _ _
   | exact ih2 _ _ _
   | exact ih3 _ _ _
   | exact ih4 _ _ _
   | exact fullerref10_Arity.mono _ _
   | exact fullerref10_like.mono _ _ _ _ _ _ _
   | exact fullerref10_nums.mono _ _ _ _
   | exact LeO.none _
   | refine LeO.ite ?_ ?_
   | refine LeO.bind ?_ (fun _ => ?_)
theorem fullerref10_Check.mono : ∀ a0 k, LeO (fullerref10_Check.f k a0) (fullerref10_Check.f (k + 1) a0) := by
 intro a0 k
 obtain ⟨ih0, ih1, ih2, ih3, ih4⟩ := fullerref10_Check.mono_l k
 unfold fullerref10_Check.f
 repeat' first
   | (with_reducible exact ih0 _ _)
   | (with_reducible exact ih1 _ _)
   | (with_reducible exact ih2 _ _ _)
   | (with_reducible exact ih3 _ _ _)
   | (with_reducible exact ih4 _ _ _)
   | (with_reducible exact fullerref10_Arity.mono _ _)
   | (with_reducible exact fullerref10_like.mono _ _ _ _ _ _ _)
   | (with_reducible exact fullerref10_nums.mono _ _ _ _)
   | (with_reducible exact LeO.refl _)
   | (with_reducible exact LeO.none _)
   | (with_reducible refine LeO.ite ?_ ?_)
   | (with_reducible refine LeO.bind ?_ (fun _ => ?_))
   | exact ih0 _ _
   | exact ih1 _ _
   | exact ih2 _ _ _
   | exact ih3 _ _ _
   | exact ih4 _ _ _
   | exact fullerref10_Arity.mono _ _
   | exact fullerref10_like.mono _ _ _ _ _ _ _
   | exact fullerref10_nums.mono _ _ _ _
   | exact LeO.none _
   | refine LeO.ite ?_ ?_
   | refine LeO.bind ?_ (fun _ => ?_)
def fullerref10_Check.T7 : Bool × List (List Nat × List Nat) := (true, [([], []), ([], []), ([0, 1], [0, 1]), ([2], [2]), ([3], [3]), ([4], [4]), ([5], [5]), ([6, 5], [6]), ([7], [7]), ([7], [7]), ([8, 9, 7], [7, 8, 9]), ([10, 7], [7, 10]), ([11, 7], [7, 11]), ([12, 7], [7, 12]), ([7], [7]), ([7], [7]), ([14, 15, 7], [7, 14, 15]), ([16, 7], [7, 16]), ([17, 7], [7, 17]), ([18, 7, 7], [7, 18]), ([13, 19, 7], [7, 13, 19]), ([7, 20], [7, 20]), ([21, 19], [21]), ([22], [22]), ([23, 22], [22, 23]), ([22, 24], [22, 24])])
def fullerref10_Check.B7 : List Nat := [0, 0, 3, 7, 15, 31, 63, 127, 255, 255, 1023, 2047, 4095, 8191, 255, 255, 49407, 114943, 246015, 508159, 1048575, 2097151, 4194303, 8388607, 16777215, 33554431]
theorem fullerref10_Check.tab7 : rtab .any (opsOf Try.f14 7) = fullerref10_Check.T7 := by kernel_rfl
theorem fullerref10_Check.bits7 : waitsOk fullerref10_Check.T7.2 fullerref10_Check.B7 = true := by kernel_rfl
def fullerref10_Check.T17 : Bool × List (List Nat × List Nat) := (true, [([], []), ([], []), ([0, 1], [0, 1]), ([2], [2]), ([], []), ([], []), ([4, 5], [4, 5]), ([6], [6]), ([3, 7], [3, 7]), ([8, 8, 0, 1, 2, 3, 4, 5, 6, 7, 8], [8])])
def fullerref10_Check.B17 : List Nat := [0, 0, 3, 7, 0, 0, 48, 112, 255, 511]
theorem fullerref10_Check.tab17 : rtab .any (opsOf Try.f14 17) = fullerref10_Check.T17 := by kernel_rfl
theorem fullerref10_Check.bits17 : waitsOk fullerref10_Check.T17.2 fullerref10_Check.B17 = true := by kernel_rfl
set_option maxHeartbeats 8000000 in
set_option maxRecDepth 100000 in
theorem fullerref10_Check.calls (k : Nat) (A0 : Option Addr) (c0 : Nat) (l0 : List (S35)) (r : Bool) (w : World) (hr0 : Kd.C k35 w A0 l0.length l0) (hc0 : l0.length ≤ c0) (h : fullerref10_Check.f k l0 = some r) :
  Calls Try.prog 14 #[.slice A0 l0.length c0] w fun e w' => e = .returned (.bool r) ∧ Below w.heap.size w w' := by
 have hu35 := Try.underlying35
 have HR0 := Aside0.mk hr0
 have HC0 := Aside0.mk hc0
 clear hr0 hc0
 have HB := Aside0.mk (Below.refl w.heap.size w)
 have H : (if (l0.length : Int) < 1 then (fullerref10_Check.j0 k l0 true) else (fullerref10_Check.j0 k l0 (decide ((l0.length : Int) > 24)))) = some r := h
 clear h
 have HC2 := Aside0.mk H
 clear H
 go_enter Try.func14, Try.ntmps14
 go_upto_region 1 with (fail)
 go_cut [15] (fun v15 wc => ∃ (kq : Nat) (x15_1 : Bool), v15 = .bool x15_1 ∧ Aside0 (fullerref10_Check.j0 kq l0 x15_1 = some r) ∧ Aside0 (kq ≤ k) ∧ Aside0 (Below w.heap.size w wc))
 case first =>
  have H := HC2.out
  clear HC2
  by_cases c3 : (l0.length : Int) < 1
  ·rw [if_pos c3] at H
   have c3b0 : decide ((l0.length : Int) < 1) = true := decide_eq_true c3
   have c3b1 : decide (l0.length < 1) = true := decide_eq_true (by omega)
   clear c3
   (first | rw [c3b0] | (simp only [i64_w, i32_w]; rw [c3b0]) | skip)
   have H' := Aside0.mk H
   clear H
   go_wp2
   go_meet
   case rel => exact ⟨_, (true), (by first | rfl | (simp; done) | (simp [*]; done)), H', ⟨by first | omega | exact Nat.le_refl _⟩, ⟨bq0_ HB.out⟩⟩
  ·rw [if_neg c3] at H
   have c3b0 : decide ((l0.length : Int) < 1) = false := decide_eq_false c3
   have c3b1 : decide (l0.length < 1) = false := decide_eq_false (by omega)
   clear c3
   (first | rw [c3b0] | (simp only [i64_w, i32_w]; rw [c3b0]) | skip)
   have H' := Aside0.mk H
   clear H
   go_wp2
   go_meet
   case rel => exact ⟨_, (decide ((l0.length : Int) > 24)), (by first | rfl | (simp; done) | (simp [*]; done)), H', ⟨by first | omega | exact Nat.le_refl _⟩, ⟨bq0_ HB.out⟩⟩
 case rest =>
  clear HC2
  try clear c1
  try clear p2
  try clear c3
  try clear c3b0
  try clear c3b1
  obtain ⟨kq, x15_1, rfl, HA, HJ1, HB⟩ := hcut
  cases kq with
  | zero => exact absurd HA.out (by simp [fullerref10_Check.j0])
  | succ kj1 =>
   have H := HA.out
   clear HA
   simp only [fullerref10_Check.j0] at H
   by_cases c4 : x15_1 = true
   ·subst c4
    have H1 : (some false) = some r := by rw [if_pos rfl] at H; exact H
    clear H
    have H := H1
    clear H1
    obtain rfl := Option.some.inj H
    go_wp2
    go_ret
    exact ⟨by first | rfl | (simp <;> rfl) | (simp [*] <;> rfl), bq0_ HB.out⟩
   ·replace c4 := Bool.eq_false_iff.mpr c4
    subst c4
    have H1 : (fullerref10_Check.l0 kj1 l0 0) = some r := by rw [if_neg (show ¬ (false = true) by decide)] at H; exact H
    clear H
    have H := H1
    clear H1
    have H' := Aside0.mk H
    clear H
    go_wp2
    go_loopg [3] kj1 (fun kq v3 w' => ∃ (x3_2 : Int), v3 = .int .i64 x3_2 ∧ Aside0 (fullerref10_Check.l0 kq l0 x3_2 = some r) ∧ Aside0 (kq ≤ kj1) ∧ Aside0 (Below w.heap.size w w'))
    case atStart => exact ⟨(0), (by first | rfl | (simp; done) | (simp [*]; done)), H', ⟨Nat.le_refl _⟩, ⟨bq0_ HB.out⟩⟩
    case round =>
     clear H'
     try clear c1
     try clear p2
     try clear c3
     try clear c3b0
     try clear c3b1
     try clear c4
     try clear p2
     obtain ⟨x3_2, rfl, HA, HK2, HB⟩ := hrel
     cases gk with
     | zero => exact absurd HA.out (by simp [fullerref10_Check.l0])
     | succ k2 =>
      have H := HA.out
      clear HA
      simp only [fullerref10_Check.l0] at H
      by_cases c5 : x3_2 < (l0.length : Int)
      ·rw [if_pos c5] at H
       have c5b0 : decide (x3_2 < (l0.length : Int)) = true := decide_eq_true c5
       clear c5
       by_cases c6 : 0 ≤ x3_2
       ·rw [if_pos c6] at H
        have c6b0 : decide (0 ≤ x3_2) = true := decide_eq_true c6
        clear c6
        replace H := Option.bind_eq_some_iff.mp H
        obtain ⟨t324, A70, H⟩ := H
        replace H : ((fullerref10_Arity.f k2 ((rd_T35 l0 x3_2).f0)).bind fun t326 => (if t326 < 0 then (fullerref10_Check.j2 k2 l0 x3_2 true) else ((fullerref10_Arity.f k2 ((rd_T35 l0 x3_2).f0)).bind fun t329 => (if (((rd_T35 l0 x3_2).f1).length : Int) = t329 then (fullerref10_Check.j2 k2 l0 x3_2 (!t324)) else (fullerref10_Check.j2 k2 l0 x3_2 true))))) = some r := H
        have A7 := Aside0.mk A70
        clear A70
        have HC8 := Aside0.mk H
        clear H
        have p323 : 0 ≤ (x3_2 : Int) := od_
        have q323 : x3_2 < (l0.length : Int) := od_
        obtain ⟨ad323, A323_1, c323_1, A323_2, c323_2, e323, hx323_0, hx323_1, hx323_2, hl323_1, hi323_1, hl323_2, hi323_2⟩ := at_T35 HR0.out x3_2 p323 q323
        cases e323
        replace hx323_0 := (HB.out.cell (World.block_lt_of_cell? w _ hx323_0)).trans hx323_0
        replace hx323_1 := (HB.out.cell (World.block_lt_of_cell? w _ hx323_1)).trans hx323_1
        replace hx323_2 := (HB.out.cell (World.block_lt_of_cell? w _ hx323_2)).trans hx323_2
        have HR323_1 := Aside0.mk hi323_1
        have HC323_1 := Aside0.mk hl323_1
        clear hi323_1 hl323_1
        have HR323_2 := Aside0.mk hi323_2
        have HC323_2 := Aside0.mk hl323_2
        clear hi323_2 hl323_2
        replace p323 := eq_true p323
        replace q323 := eq_true q323
        go_upto_region 7 with (first | ((with_reducible refine gate_callee (f := 34) rfl ?_); refine gL_ (some 26) Try.func34 #[.agg #[.int .i64 ((rd_T35 l0 x3_2).f0), .slice A323_1 ((rd_T35 l0 x3_2).f1).length c323_1, .slice A323_2 ((rd_T35 l0 x3_2).f2).length c323_2]] ?_; (with_reducible refine (fullerref10_nums.calls k2 ((rd_T35 l0 x3_2).f0) _ _ ((rd_T35 l0 x3_2).f1) _ _ ((rd_T35 l0 x3_2).f2) t324 _ ?side1 ?side2 ?side3 ?side4 A7.out).mono ?_); (case side1 => exact mvC_ ((Kd.C_below HR323_1.out HB.out))); (case side2 => exact HC323_1.out); (case side3 => exact mvC_ ((Kd.C_below HR323_2.out HB.out))); (case side4 => exact HC323_2.out); rintro e w9 ⟨rfl, hb⟩; refine ⟨_, rfl, ?_⟩; replace HB := Aside0.mk (below_step (bq0_ HB.out) hb); (try clear hb)))
        (try simp only [Act.put, sA_, sB_, sC_])
        go_cut [52] (fun v52 wc => ∃ (kq : Nat) (x52_7 : Bool), v52 = .bool x52_7 ∧ Aside0 (fullerref10_Check.j2 kq l0 x3_2 x52_7 = some r) ∧ Aside0 (kq ≤ k2) ∧ Aside0 (Below w.heap.size w wc))
        case first =>
         have H := HC8.out
         clear HC8
         replace H := Option.bind_eq_some_iff.mp H
         obtain ⟨t326, A100, H⟩ := H
         replace H : (if t326 < 0 then (fullerref10_Check.j2 k2 l0 x3_2 true) else ((fullerref10_Arity.f k2 ((rd_T35 l0 x3_2).f0)).bind fun t329 => (if (((rd_T35 l0 x3_2).f1).length : Int) = t329 then (fullerref10_Check.j2 k2 l0 x3_2 (!t324)) else (fullerref10_Check.j2 k2 l0 x3_2 true)))) = some r := H
         have A10 := Aside0.mk A100
         clear A100
         by_cases c11 : t326 < 0
         ·rw [if_pos c11] at H
          have c11b0 : decide (t326 < 0) = true := decide_eq_true c11
          clear c11
          (first | rw [c11b0] | (simp only [i64_w, i32_w]; rw [c11b0]) | skip)
          have H' := Aside0.mk H
          clear H
          try go_wp2
          replace HB := Aside0.mk (below_drew1 HB.out)
          have p325 : 0 ≤ (x3_2 : Int) := od_
          have q325 : x3_2 < (l0.length : Int) := od_
          obtain ⟨ad325, A325_1, c325_1, A325_2, c325_2, e325, hx325_0, hx325_1, hx325_2, hl325_1, hi325_1, hl325_2, hi325_2⟩ := at_T35 HR0.out x3_2 p325 q325
          have hw325_2 := hx325_2
          have hw325_1 := hx325_1
          have hw325_0 := hx325_0
          obtain rfl : ad323 = ad325 := (by injection e325)
          replace hx325_0 := (HB.out.cell (World.block_lt_of_cell? w _ hx325_0)).trans hx325_0
          replace hx325_1 := (HB.out.cell (World.block_lt_of_cell? w _ hx325_1)).trans hx325_1
          replace hx325_2 := (HB.out.cell (World.block_lt_of_cell? w _ hx325_2)).trans hx325_2
          have HR325_1 := Aside0.mk hi325_1
          have HC325_1 := Aside0.mk hl325_1
          clear hi325_1 hl325_1
          have HR325_2 := Aside0.mk hi325_2
          have HC325_2 := Aside0.mk hl325_2
          clear hi325_2 hl325_2
          replace p325 := eq_true p325
          replace q325 := eq_true q325
          refine start_ (n := 26) (S := fun w' => w'.cell? (ad323.add ((x3_2).toNat * 3)) = some (.int .i64 ((rd_T35 l0 x3_2).f0)) ∧ w'.cell? ⟨(ad323.add ((x3_2).toNat * 3)).block, (ad323.add ((x3_2).toNat * 3)).off + 1, none⟩ = some (.slice A325_1 ((rd_T35 l0 x3_2).f1).length c325_1) ∧ w'.cell? ⟨(ad323.add ((x3_2).toNat * 3)).block, (ad323.add ((x3_2).toNat * 3)).off + 2, none⟩ = some (.slice A325_2 ((rd_T35 l0 x3_2).f2).length c325_2)) (ds := []) L14_0 (by kernel_rfl) rfl rfl ⟨((HB.out.cell (World.block_lt_of_cell? w _ hw325_0)).trans hw325_0), ((HB.out.cell (World.block_lt_of_cell? w _ hw325_1)).trans hw325_1), ((HB.out.cell (World.block_lt_of_cell? w _ hw325_2)).trans hw325_2)⟩ (fun hHeld => ?_); refine with_tabW fullerref10_Check.tab7 fullerref10_Check.bits7 (fun HT_ HW_ => ?_)
          generalize w9.drew = w12 at HB HR325_1 HR325_2 hx325_0 hx325_1 hx325_2 hHeld ⊢
          refine pu_ 0 (some 27) L14_1 HT_ ?_
          refine pu_ 1 (some 28) L14_2 HT_ ?_
          refine pu_ 2 (some 29) L14_3 HT_ ?_
          refine pu_ 3 (some 30) L14_4 HT_ ?_
          refine ta_ 4 (some 31) L14_5 HT_ HW_ hHeld ?_ (hy := by rintro w' ⟨s0, s1, s2⟩; go_simp; with_reducible rfl)
          refine one_ (i := 5) (N := some 32) L14_6 rfl rfl (one_of HT_.out (by kernel_rfl)) (by decide) (fun K hK => ?_)
          refine goes_ Try.func16 (by kernel_rfl) rfl #[.int .i64 ((rd_T35 l0 x3_2).f0)] (by rfl) rfl rfl (by (try simp only [List.map_toArray, List.map_cons, List.map_nil]); first | done | rfl | (simp only [List.length_drop, List.length_take]; rfl)) ?_
          with_reducible refine (fullerref10_Arity.calls k2 ((rd_T35 l0 x3_2).f0) t326 _ A10.out).mono ?_
          rintro e w' ⟨rfl, ⟨nd, rfl⟩⟩
          refine ⟨_, rfl, ?_⟩
          refine hK.out _ _ ⟨((HB.out.cell (World.block_lt_of_cell? w _ hw325_0)).trans hw325_0), ((HB.out.cell (World.block_lt_of_cell? w _ hw325_1)).trans hw325_1), ((HB.out.cell (World.block_lt_of_cell? w _ hw325_2)).trans hw325_2)⟩ (fun hHeld => ?_)
          clear hK K
          refine norm_ (a' := ?_) ?_ ?_
          rotate_left
          ·show Act.put _ (some 32) _ = _
           simp only [Act.put, sA_, sB_, sC_, i64_w, i32_w]
           rfl
          refine pu_ 6 (some 33) L14_7 HT_ ?_
          refine pu_ 7 (some 34) L14_8 HT_ ?_
          refine skips_ (fuel := 5) (m := 18) HT_.out (fun _ _ _ _ _ h => h) [(8, 35), (9, 36), (10, 37), (11, 38), (12, 39), (13, 40), (14, 41), (15, 42), (16, 43), (17, 44), (18, 45), (19, 46), (20, 47)] L14_9 rfl (by kernel_rfl) (by kernel_rfl) (a' := ?_) ?_ ?_
          rotate_left
          ·simp only [putU, Act.put, sA_, sB_, sC_]
           rfl
          refine pu_ 21 (some 48) L14_10 HT_ ?_
          refine pu_ 22 (some 49) L14_11 HT_ ?_
          refine skips_ (fuel := 1) (m := 3) HT_.out (fun _ _ _ _ _ h => h) [(23, 50), (24, 51)] L14_12 rfl (by kernel_rfl) (by kernel_rfl) (a' := ?_) ?_ ?_
          rotate_left
          ·simp only [putU, Act.put, sA_, sB_, sC_]
           rfl
          refine pu_ 25 (some 52) L14_13 HT_ ?_
          refine done_ (done_of HT_.out (by kernel_rfl)) ?_
          try go_wp2
          go_meet
          case rel => exact ⟨_, (true), (by first | rfl | (simp; done) | (simp [*]; done)), H', ⟨by have := HJ1.out; have := HK2.out; first | omega | exact Nat.le_refl _⟩, ⟨bq0_ HB.out⟩⟩
         ·rw [if_neg c11] at H
          have c11b0 : decide (t326 < 0) = false := decide_eq_false c11
          clear c11
          (first | rw [c11b0] | (simp only [i64_w, i32_w]; rw [c11b0]) | skip)
          replace H := Option.bind_eq_some_iff.mp H
          obtain ⟨t329, A130, H⟩ := H
          replace H : (if (((rd_T35 l0 x3_2).f1).length : Int) = t329 then (fullerref10_Check.j2 k2 l0 x3_2 (!t324)) else (fullerref10_Check.j2 k2 l0 x3_2 true)) = some r := H
          have A13 := Aside0.mk A130
          clear A130
          by_cases c14 : (((rd_T35 l0 x3_2).f1).length : Int) = t329
          ·rw [if_pos c14] at H
           obtain ⟨c14b0, c14b1⟩ := eqT_ c14
           clear c14
           have H' := Aside0.mk H
           clear H
           try go_wp2
           replace HB := Aside0.mk (below_drew1 HB.out)
           have p325 : 0 ≤ (x3_2 : Int) := od_
           have q325 : x3_2 < (l0.length : Int) := od_
           obtain ⟨ad325, A325_1, c325_1, A325_2, c325_2, e325, hx325_0, hx325_1, hx325_2, hl325_1, hi325_1, hl325_2, hi325_2⟩ := at_T35 HR0.out x3_2 p325 q325
           have hw325_2 := hx325_2
           have hw325_1 := hx325_1
           have hw325_0 := hx325_0
           obtain rfl : ad323 = ad325 := (by injection e325)
           replace hx325_0 := (HB.out.cell (World.block_lt_of_cell? w _ hx325_0)).trans hx325_0
           replace hx325_1 := (HB.out.cell (World.block_lt_of_cell? w _ hx325_1)).trans hx325_1
           replace hx325_2 := (HB.out.cell (World.block_lt_of_cell? w _ hx325_2)).trans hx325_2
           have HR325_1 := Aside0.mk hi325_1
           have HC325_1 := Aside0.mk hl325_1
           clear hi325_1 hl325_1
           have HR325_2 := Aside0.mk hi325_2
           have HC325_2 := Aside0.mk hl325_2
           clear hi325_2 hl325_2
           replace p325 := eq_true p325
           replace q325 := eq_true q325
           have p327 : 0 ≤ (x3_2 : Int) := od_
           have q327 : x3_2 < (l0.length : Int) := od_
           obtain ⟨ad327, A327_1, c327_1, A327_2, c327_2, e327, hx327_0, hx327_1, hx327_2, hl327_1, hi327_1, hl327_2, hi327_2⟩ := at_T35 HR0.out x3_2 p327 q327
           have hw327_2 := hx327_2
           have hw327_1 := hx327_1
           have hw327_0 := hx327_0
           obtain rfl : ad323 = ad327 := (by injection e327)
           replace hx327_0 := (HB.out.cell (World.block_lt_of_cell? w _ hx327_0)).trans hx327_0
           replace hx327_1 := (HB.out.cell (World.block_lt_of_cell? w _ hx327_1)).trans hx327_1
           replace hx327_2 := (HB.out.cell (World.block_lt_of_cell? w _ hx327_2)).trans hx327_2
           have HR327_1 := Aside0.mk hi327_1
           have HC327_1 := Aside0.mk hl327_1
           clear hi327_1 hl327_1
           have HR327_2 := Aside0.mk hi327_2
           have HC327_2 := Aside0.mk hl327_2
           clear hi327_2 hl327_2
           replace p327 := eq_true p327
           replace q327 := eq_true q327
           have ea_ := Option.some.inj (hx325_1.symm.trans hx327_1)
           injection ea_ with ea_ en_ ec_
           subst ea_
           subst ec_
           clear en_
           have ea_ := Option.some.inj (hx325_2.symm.trans hx327_2)
           injection ea_ with ea_ en_ ec_
           subst ea_
           subst ec_
           clear en_
           have p328 : 0 ≤ (x3_2 : Int) := od_
           have q328 : x3_2 < (l0.length : Int) := od_
           obtain ⟨ad328, A328_1, c328_1, A328_2, c328_2, e328, hx328_0, hx328_1, hx328_2, hl328_1, hi328_1, hl328_2, hi328_2⟩ := at_T35 HR0.out x3_2 p328 q328
           have hw328_2 := hx328_2
           have hw328_1 := hx328_1
           have hw328_0 := hx328_0
           obtain rfl : ad323 = ad328 := (by injection e328)
           replace hx328_0 := (HB.out.cell (World.block_lt_of_cell? w _ hx328_0)).trans hx328_0
           replace hx328_1 := (HB.out.cell (World.block_lt_of_cell? w _ hx328_1)).trans hx328_1
           replace hx328_2 := (HB.out.cell (World.block_lt_of_cell? w _ hx328_2)).trans hx328_2
           have HR328_1 := Aside0.mk hi328_1
           have HC328_1 := Aside0.mk hl328_1
           clear hi328_1 hl328_1
           have HR328_2 := Aside0.mk hi328_2
           have HC328_2 := Aside0.mk hl328_2
           clear hi328_2 hl328_2
           replace p328 := eq_true p328
           replace q328 := eq_true q328
           have ea_ := Option.some.inj (hx325_1.symm.trans hx328_1)
           injection ea_ with ea_ en_ ec_
           subst ea_
           subst ec_
           clear en_
           have ea_ := Option.some.inj (hx325_2.symm.trans hx328_2)
           injection ea_ with ea_ en_ ec_
           subst ea_
           subst ec_
           clear en_
           refine start_ (n := 26) (S := fun w' => w'.cell? (ad323.add ((x3_2).toNat * 3)) = some (.int .i64 ((rd_T35 l0 x3_2).f0)) ∧ w'.cell? ⟨(ad323.add ((x3_2).toNat * 3)).block, (ad323.add ((x3_2).toNat * 3)).off + 1, none⟩ = some (.slice A325_1 ((rd_T35 l0 x3_2).f1).length c325_1) ∧ w'.cell? ⟨(ad323.add ((x3_2).toNat * 3)).block, (ad323.add ((x3_2).toNat * 3)).off + 2, none⟩ = some (.slice A325_2 ((rd_T35 l0 x3_2).f2).length c325_2) ∧ w'.cell? (ad323.add ((x3_2).toNat * 3)) = some (.int .i64 ((rd_T35 l0 x3_2).f0)) ∧ w'.cell? ⟨(ad323.add ((x3_2).toNat * 3)).block, (ad323.add ((x3_2).toNat * 3)).off + 1, none⟩ = some (.slice A325_1 ((rd_T35 l0 x3_2).f1).length c325_1) ∧ w'.cell? ⟨(ad323.add ((x3_2).toNat * 3)).block, (ad323.add ((x3_2).toNat * 3)).off + 2, none⟩ = some (.slice A325_2 ((rd_T35 l0 x3_2).f2).length c325_2) ∧ w'.cell? (ad323.add ((x3_2).toNat * 3)) = some (.int .i64 ((rd_T35 l0 x3_2).f0)) ∧ w'.cell? ⟨(ad323.add ((x3_2).toNat * 3)).block, (ad323.add ((x3_2).toNat * 3)).off + 1, none⟩ = some (.slice A325_1 ((rd_T35 l0 x3_2).f1).length c325_1) ∧ w'.cell? ⟨(ad323.add ((x3_2).toNat * 3)).block, (ad323.add ((x3_2).toNat * 3)).off + 2, none⟩ = some (.slice A325_2 ((rd_T35 l0 x3_2).f2).length c325_2)) (ds := []) L14_0 (by kernel_rfl) rfl rfl ⟨((HB.out.cell (World.block_lt_of_cell? w _ hw325_0)).trans hw325_0), ((HB.out.cell (World.block_lt_of_cell? w _ hw325_1)).trans hw325_1), ((HB.out.cell (World.block_lt_of_cell? w _ hw325_2)).trans hw325_2), ((HB.out.cell (World.block_lt_of_cell? w _ hw327_0)).trans hw327_0), ((HB.out.cell (World.block_lt_of_cell? w _ hw327_1)).trans hw327_1), ((HB.out.cell (World.block_lt_of_cell? w _ hw327_2)).trans hw327_2), ((HB.out.cell (World.block_lt_of_cell? w _ hw328_0)).trans hw328_0), ((HB.out.cell (World.block_lt_of_cell? w _ hw328_1)).trans hw328_1), ((HB.out.cell (World.block_lt_of_cell? w _ hw328_2)).trans hw328_2)⟩ (fun hHeld => ?_); refine with_tabW fullerref10_Check.tab7 fullerref10_Check.bits7 (fun HT_ HW_ => ?_)
           generalize w9.drew = w15 at HB HR325_1 HR325_2 HR327_1 HR327_2 HR328_1 HR328_2 hx325_0 hx325_1 hx325_2 hx327_0 hx327_1 hx327_2 hx328_0 hx328_1 hx328_2 hHeld ⊢
           refine pu_ 0 (some 27) L14_1 HT_ ?_
           refine pu_ 1 (some 28) L14_2 HT_ ?_
           refine pu_ 2 (some 29) L14_3 HT_ ?_
           refine pu_ 3 (some 30) L14_4 HT_ ?_
           refine ta_ 4 (some 31) L14_5 HT_ HW_ hHeld ?_ (hy := by rintro w' ⟨s0, s1, s2, s3, s4, s5, s6, s7, s8⟩; go_simp; with_reducible rfl)
           refine one_ (i := 5) (N := some 32) L14_6 rfl rfl (one_of HT_.out (by kernel_rfl)) (by decide) (fun K hK => ?_)
           refine goes_ Try.func16 (by kernel_rfl) rfl #[.int .i64 ((rd_T35 l0 x3_2).f0)] (by rfl) rfl rfl (by (try simp only [List.map_toArray, List.map_cons, List.map_nil]); first | done | rfl | (simp only [List.length_drop, List.length_take]; rfl)) ?_
           with_reducible refine (fullerref10_Arity.calls k2 ((rd_T35 l0 x3_2).f0) t326 _ A10.out).mono ?_
           rintro e w' ⟨rfl, ⟨nd, rfl⟩⟩
           refine ⟨_, rfl, ?_⟩
           refine hK.out _ _ ⟨((HB.out.cell (World.block_lt_of_cell? w _ hw325_0)).trans hw325_0), ((HB.out.cell (World.block_lt_of_cell? w _ hw325_1)).trans hw325_1), ((HB.out.cell (World.block_lt_of_cell? w _ hw325_2)).trans hw325_2), ((HB.out.cell (World.block_lt_of_cell? w _ hw327_0)).trans hw327_0), ((HB.out.cell (World.block_lt_of_cell? w _ hw327_1)).trans hw327_1), ((HB.out.cell (World.block_lt_of_cell? w _ hw327_2)).trans hw327_2), ((HB.out.cell (World.block_lt_of_cell? w _ hw328_0)).trans hw328_0), ((HB.out.cell (World.block_lt_of_cell? w _ hw328_1)).trans hw328_1), ((HB.out.cell (World.block_lt_of_cell? w _ hw328_2)).trans hw328_2)⟩ (fun hHeld => ?_)
           clear hK K
           refine norm_ (a' := ?_) ?_ ?_
           rotate_left
           ·show Act.put _ (some 32) _ = _
            simp only [Act.put, sA_, sB_, sC_, i64_w, i32_w]
            rfl
           refine pu_ 6 (some 33) L14_7 HT_ ?_
           refine pu_ 7 (some 34) L14_8 HT_ ?_
           refine pu_ 8 (some 35) L14_14 HT_ ?_
           refine pu_ 9 (some 36) L14_15 HT_ ?_
           refine pu_ 10 (some 37) L14_16 HT_ ?_
           refine pu_ 11 (some 38) L14_17 HT_ ?_
           refine pu_ 14 (some 41) L14_18 HT_ ?_
           refine pu_ 15 (some 42) L14_19 HT_ ?_
           refine pu_ 16 (some 43) L14_20 HT_ ?_
           refine pu_ 17 (some 44) L14_21 HT_ ?_
           refine ta_ 12 (some 39) L14_22 HT_ HW_ hHeld ?_ (hy := by rintro w' ⟨s0, s1, s2, s3, s4, s5, s6, s7, s8⟩; go_simp; with_reducible rfl)
           refine pu_ 13 (some 40) L14_23 HT_ ?_
           refine ta_ 18 (some 45) L14_24 HT_ HW_ hHeld ?_ (hy := by rintro w' ⟨s0, s1, s2, s3, s4, s5, s6, s7, s8⟩; go_simp; with_reducible rfl)
           refine one_ (i := 19) (N := some 46) L14_25 rfl rfl (one_of HT_.out (by kernel_rfl)) (by decide) (fun K hK => ?_)
           refine goes_ Try.func16 (by kernel_rfl) rfl #[.int .i64 ((rd_T35 l0 x3_2).f0)] (by rfl) rfl rfl (by (try simp only [List.map_toArray, List.map_cons, List.map_nil]); first | done | rfl | (simp only [List.length_drop, List.length_take]; rfl)) ?_
           with_reducible refine (fullerref10_Arity.calls k2 ((rd_T35 l0 x3_2).f0) t329 _ A13.out).mono ?_
           rintro e w' ⟨rfl, ⟨nd, rfl⟩⟩
           refine ⟨_, rfl, ?_⟩
           refine hK.out _ _ ⟨((HB.out.cell (World.block_lt_of_cell? w _ hw325_0)).trans hw325_0), ((HB.out.cell (World.block_lt_of_cell? w _ hw325_1)).trans hw325_1), ((HB.out.cell (World.block_lt_of_cell? w _ hw325_2)).trans hw325_2), ((HB.out.cell (World.block_lt_of_cell? w _ hw327_0)).trans hw327_0), ((HB.out.cell (World.block_lt_of_cell? w _ hw327_1)).trans hw327_1), ((HB.out.cell (World.block_lt_of_cell? w _ hw327_2)).trans hw327_2), ((HB.out.cell (World.block_lt_of_cell? w _ hw328_0)).trans hw328_0), ((HB.out.cell (World.block_lt_of_cell? w _ hw328_1)).trans hw328_1), ((HB.out.cell (World.block_lt_of_cell? w _ hw328_2)).trans hw328_2)⟩ (fun hHeld => ?_)
           clear hK K
           refine norm_ (a' := ?_) ?_ ?_
           rotate_left
           ·show Act.put _ (some 46) _ = _
            simp only [Act.put, sA_, sB_, sC_, i64_w, i32_w]
            rfl
           refine pu_ 20 (some 47) L14_9 HT_ ?_
           refine pu_ 21 (some 48) L14_10 HT_ ?_
           refine pu_ 22 (some 49) L14_11 HT_ ?_
           refine pu_ 23 (some 50) L14_26 HT_ ?_
           refine pu_ 24 (some 51) L14_12 HT_ ?_
           refine pu_ 25 (some 52) L14_13 HT_ ?_
           refine done_ (done_of HT_.out (by kernel_rfl)) ?_
           try go_wp2
           go_meet
           case rel => exact ⟨_, (!t324), (by first | rfl | (simp; done) | (simp [*]; done)), H', ⟨by have := HJ1.out; have := HK2.out; first | omega | exact Nat.le_refl _⟩, ⟨bq0_ HB.out⟩⟩
          ·rw [if_neg c14] at H
           have c14b0 : ((((rd_T35 l0 x3_2).f1).length : Int) == t329) = false := beq_eq_false_iff_ne.mpr c14
           have c14b1 : ((((rd_T35 l0 x3_2).f1).length : Int) != t329) = true := bne_iff_ne.mpr c14
           have H' := Aside0.mk H
           clear H
           try go_wp2
           replace HB := Aside0.mk (below_drew1 HB.out)
           have p325 : 0 ≤ (x3_2 : Int) := od_
           have q325 : x3_2 < (l0.length : Int) := od_
           obtain ⟨ad325, A325_1, c325_1, A325_2, c325_2, e325, hx325_0, hx325_1, hx325_2, hl325_1, hi325_1, hl325_2, hi325_2⟩ := at_T35 HR0.out x3_2 p325 q325
           have hw325_2 := hx325_2
           have hw325_1 := hx325_1
           have hw325_0 := hx325_0
           obtain rfl : ad323 = ad325 := (by injection e325)
           replace hx325_0 := (HB.out.cell (World.block_lt_of_cell? w _ hx325_0)).trans hx325_0
           replace hx325_1 := (HB.out.cell (World.block_lt_of_cell? w _ hx325_1)).trans hx325_1
           replace hx325_2 := (HB.out.cell (World.block_lt_of_cell? w _ hx325_2)).trans hx325_2
           have HR325_1 := Aside0.mk hi325_1
           have HC325_1 := Aside0.mk hl325_1
           clear hi325_1 hl325_1
           have HR325_2 := Aside0.mk hi325_2
           have HC325_2 := Aside0.mk hl325_2
           clear hi325_2 hl325_2
           replace p325 := eq_true p325
           replace q325 := eq_true q325
           have p327 : 0 ≤ (x3_2 : Int) := od_
           have q327 : x3_2 < (l0.length : Int) := od_
           obtain ⟨ad327, A327_1, c327_1, A327_2, c327_2, e327, hx327_0, hx327_1, hx327_2, hl327_1, hi327_1, hl327_2, hi327_2⟩ := at_T35 HR0.out x3_2 p327 q327
           have hw327_2 := hx327_2
           have hw327_1 := hx327_1
           have hw327_0 := hx327_0
           obtain rfl : ad323 = ad327 := (by injection e327)
           replace hx327_0 := (HB.out.cell (World.block_lt_of_cell? w _ hx327_0)).trans hx327_0
           replace hx327_1 := (HB.out.cell (World.block_lt_of_cell? w _ hx327_1)).trans hx327_1
           replace hx327_2 := (HB.out.cell (World.block_lt_of_cell? w _ hx327_2)).trans hx327_2
           have HR327_1 := Aside0.mk hi327_1
           have HC327_1 := Aside0.mk hl327_1
           clear hi327_1 hl327_1
           have HR327_2 := Aside0.mk hi327_2
           have HC327_2 := Aside0.mk hl327_2
           clear hi327_2 hl327_2
           replace p327 := eq_true p327
           replace q327 := eq_true q327
           have ea_ := Option.some.inj (hx325_1.symm.trans hx327_1)
           injection ea_ with ea_ en_ ec_
           subst ea_
           subst ec_
           clear en_
           have ea_ := Option.some.inj (hx325_2.symm.trans hx327_2)
           injection ea_ with ea_ en_ ec_
           subst ea_
           subst ec_
           clear en_
           have p328 : 0 ≤ (x3_2 : Int) := od_
           have q328 : x3_2 < (l0.length : Int) := od_
           obtain ⟨ad328, A328_1, c328_1, A328_2, c328_2, e328, hx328_0, hx328_1, hx328_2, hl328_1, hi328_1, hl328_2, hi328_2⟩ := at_T35 HR0.out x3_2 p328 q328
           have hw328_2 := hx328_2
           have hw328_1 := hx328_1
           have hw328_0 := hx328_0
           obtain rfl : ad323 = ad328 := (by injection e328)
           replace hx328_0 := (HB.out.cell (World.block_lt_of_cell? w _ hx328_0)).trans hx328_0
           replace hx328_1 := (HB.out.cell (World.block_lt_of_cell? w _ hx328_1)).trans hx328_1
           replace hx328_2 := (HB.out.cell (World.block_lt_of_cell? w _ hx328_2)).trans hx328_2
           have HR328_1 := Aside0.mk hi328_1
           have HC328_1 := Aside0.mk hl328_1
           clear hi328_1 hl328_1
           have HR328_2 := Aside0.mk hi328_2
           have HC328_2 := Aside0.mk hl328_2
           clear hi328_2 hl328_2
           replace p328 := eq_true p328
           replace q328 := eq_true q328
           have ea_ := Option.some.inj (hx325_1.symm.trans hx328_1)
           injection ea_ with ea_ en_ ec_
           subst ea_
           subst ec_
           clear en_
           have ea_ := Option.some.inj (hx325_2.symm.trans hx328_2)
           injection ea_ with ea_ en_ ec_
           subst ea_
           subst ec_
           clear en_
           refine start_ (n := 26) (S := fun w' => w'.cell? (ad323.add ((x3_2).toNat * 3)) = some (.int .i64 ((rd_T35 l0 x3_2).f0)) ∧ w'.cell? ⟨(ad323.add ((x3_2).toNat * 3)).block, (ad323.add ((x3_2).toNat * 3)).off + 1, none⟩ = some (.slice A325_1 ((rd_T35 l0 x3_2).f1).length c325_1) ∧ w'.cell? ⟨(ad323.add ((x3_2).toNat * 3)).block, (ad323.add ((x3_2).toNat * 3)).off + 2, none⟩ = some (.slice A325_2 ((rd_T35 l0 x3_2).f2).length c325_2) ∧ w'.cell? (ad323.add ((x3_2).toNat * 3)) = some (.int .i64 ((rd_T35 l0 x3_2).f0)) ∧ w'.cell? ⟨(ad323.add ((x3_2).toNat * 3)).block, (ad323.add ((x3_2).toNat * 3)).off + 1, none⟩ = some (.slice A325_1 ((rd_T35 l0 x3_2).f1).length c325_1) ∧ w'.cell? ⟨(ad323.add ((x3_2).toNat * 3)).block, (ad323.add ((x3_2).toNat * 3)).off + 2, none⟩ = some (.slice A325_2 ((rd_T35 l0 x3_2).f2).length c325_2) ∧ w'.cell? (ad323.add ((x3_2).toNat * 3)) = some (.int .i64 ((rd_T35 l0 x3_2).f0)) ∧ w'.cell? ⟨(ad323.add ((x3_2).toNat * 3)).block, (ad323.add ((x3_2).toNat * 3)).off + 1, none⟩ = some (.slice A325_1 ((rd_T35 l0 x3_2).f1).length c325_1) ∧ w'.cell? ⟨(ad323.add ((x3_2).toNat * 3)).block, (ad323.add ((x3_2).toNat * 3)).off + 2, none⟩ = some (.slice A325_2 ((rd_T35 l0 x3_2).f2).length c325_2)) (ds := []) L14_0 (by kernel_rfl) rfl rfl ⟨((HB.out.cell (World.block_lt_of_cell? w _ hw325_0)).trans hw325_0), ((HB.out.cell (World.block_lt_of_cell? w _ hw325_1)).trans hw325_1), ((HB.out.cell (World.block_lt_of_cell? w _ hw325_2)).trans hw325_2), ((HB.out.cell (World.block_lt_of_cell? w _ hw327_0)).trans hw327_0), ((HB.out.cell (World.block_lt_of_cell? w _ hw327_1)).trans hw327_1), ((HB.out.cell (World.block_lt_of_cell? w _ hw327_2)).trans hw327_2), ((HB.out.cell (World.block_lt_of_cell? w _ hw328_0)).trans hw328_0), ((HB.out.cell (World.block_lt_of_cell? w _ hw328_1)).trans hw328_1), ((HB.out.cell (World.block_lt_of_cell? w _ hw328_2)).trans hw328_2)⟩ (fun hHeld => ?_); refine with_tabW fullerref10_Check.tab7 fullerref10_Check.bits7 (fun HT_ HW_ => ?_)
           generalize w9.drew = w16 at HB HR325_1 HR325_2 HR327_1 HR327_2 HR328_1 HR328_2 hx325_0 hx325_1 hx325_2 hx327_0 hx327_1 hx327_2 hx328_0 hx328_1 hx328_2 hHeld ⊢
           refine pu_ 0 (some 27) L14_1 HT_ ?_
           refine pu_ 1 (some 28) L14_2 HT_ ?_
           refine pu_ 2 (some 29) L14_3 HT_ ?_
           refine pu_ 3 (some 30) L14_4 HT_ ?_
           refine ta_ 4 (some 31) L14_5 HT_ HW_ hHeld ?_ (hy := by rintro w' ⟨s0, s1, s2, s3, s4, s5, s6, s7, s8⟩; go_simp; with_reducible rfl)
           refine one_ (i := 5) (N := some 32) L14_6 rfl rfl (one_of HT_.out (by kernel_rfl)) (by decide) (fun K hK => ?_)
           refine goes_ Try.func16 (by kernel_rfl) rfl #[.int .i64 ((rd_T35 l0 x3_2).f0)] (by rfl) rfl rfl (by (try simp only [List.map_toArray, List.map_cons, List.map_nil]); first | done | rfl | (simp only [List.length_drop, List.length_take]; rfl)) ?_
           with_reducible refine (fullerref10_Arity.calls k2 ((rd_T35 l0 x3_2).f0) t326 _ A10.out).mono ?_
           rintro e w' ⟨rfl, ⟨nd, rfl⟩⟩
           refine ⟨_, rfl, ?_⟩
           refine hK.out _ _ ⟨((HB.out.cell (World.block_lt_of_cell? w _ hw325_0)).trans hw325_0), ((HB.out.cell (World.block_lt_of_cell? w _ hw325_1)).trans hw325_1), ((HB.out.cell (World.block_lt_of_cell? w _ hw325_2)).trans hw325_2), ((HB.out.cell (World.block_lt_of_cell? w _ hw327_0)).trans hw327_0), ((HB.out.cell (World.block_lt_of_cell? w _ hw327_1)).trans hw327_1), ((HB.out.cell (World.block_lt_of_cell? w _ hw327_2)).trans hw327_2), ((HB.out.cell (World.block_lt_of_cell? w _ hw328_0)).trans hw328_0), ((HB.out.cell (World.block_lt_of_cell? w _ hw328_1)).trans hw328_1), ((HB.out.cell (World.block_lt_of_cell? w _ hw328_2)).trans hw328_2)⟩ (fun hHeld => ?_)
           clear hK K
           refine norm_ (a' := ?_) ?_ ?_
           rotate_left
           ·show Act.put _ (some 32) _ = _
            simp only [Act.put, sA_, sB_, sC_, i64_w, i32_w]
            rfl
           refine pu_ 6 (some 33) L14_7 HT_ ?_
           refine pu_ 7 (some 34) L14_8 HT_ ?_
           refine pu_ 8 (some 35) L14_14 HT_ ?_
           refine pu_ 9 (some 36) L14_15 HT_ ?_
           refine pu_ 10 (some 37) L14_16 HT_ ?_
           refine pu_ 11 (some 38) L14_17 HT_ ?_
           refine pu_ 14 (some 41) L14_18 HT_ ?_
           refine pu_ 15 (some 42) L14_19 HT_ ?_
           refine pu_ 16 (some 43) L14_20 HT_ ?_
           refine pu_ 17 (some 44) L14_21 HT_ ?_
           refine ta_ 12 (some 39) L14_22 HT_ HW_ hHeld ?_ (hy := by rintro w' ⟨s0, s1, s2, s3, s4, s5, s6, s7, s8⟩; go_simp; with_reducible rfl)
           refine pu_ 13 (some 40) L14_23 HT_ ?_
           refine ta_ 18 (some 45) L14_24 HT_ HW_ hHeld ?_ (hy := by rintro w' ⟨s0, s1, s2, s3, s4, s5, s6, s7, s8⟩; go_simp; with_reducible rfl)
           refine one_ (i := 19) (N := some 46) L14_25 rfl rfl (one_of HT_.out (by kernel_rfl)) (by decide) (fun K hK => ?_)
           refine goes_ Try.func16 (by kernel_rfl) rfl #[.int .i64 ((rd_T35 l0 x3_2).f0)] (by rfl) rfl rfl (by (try simp only [List.map_toArray, List.map_cons, List.map_nil]); first | done | rfl | (simp only [List.length_drop, List.length_take]; rfl)) ?_
           with_reducible refine (fullerref10_Arity.calls k2 ((rd_T35 l0 x3_2).f0) t329 _ A13.out).mono ?_
           rintro e w' ⟨rfl, ⟨nd, rfl⟩⟩
           refine ⟨_, rfl, ?_⟩
           refine hK.out _ _ ⟨((HB.out.cell (World.block_lt_of_cell? w _ hw325_0)).trans hw325_0), ((HB.out.cell (World.block_lt_of_cell? w _ hw325_1)).trans hw325_1), ((HB.out.cell (World.block_lt_of_cell? w _ hw325_2)).trans hw325_2), ((HB.out.cell (World.block_lt_of_cell? w _ hw327_0)).trans hw327_0), ((HB.out.cell (World.block_lt_of_cell? w _ hw327_1)).trans hw327_1), ((HB.out.cell (World.block_lt_of_cell? w _ hw327_2)).trans hw327_2), ((HB.out.cell (World.block_lt_of_cell? w _ hw328_0)).trans hw328_0), ((HB.out.cell (World.block_lt_of_cell? w _ hw328_1)).trans hw328_1), ((HB.out.cell (World.block_lt_of_cell? w _ hw328_2)).trans hw328_2)⟩ (fun hHeld => ?_)
           clear hK K
           refine norm_ (a' := ?_) ?_ ?_
           rotate_left
           ·show Act.put _ (some 46) _ = _
            simp only [Act.put, sA_, sB_, sC_, i64_w, i32_w]
            rfl
           refine pu_ 20 (some 47) L14_9 HT_ ?_
           refine pu_ 21 (some 48) L14_10 HT_ ?_
           refine pu_ 22 (some 49) L14_11 HT_ ?_
           refine skips_ (fuel := 1) (m := 3) HT_.out (fun _ _ _ _ _ h => h) [(23, 50), (24, 51)] L14_12 rfl (by kernel_rfl) (by kernel_rfl) (a' := ?_) ?_ ?_
           rotate_left
           ·simp only [putU, Act.put, sA_, sB_, sC_]
            rfl
           refine pu_ 25 (some 52) L14_13 HT_ ?_
           refine done_ (done_of HT_.out (by kernel_rfl)) ?_
           try go_wp2
           go_meet
           case rel => exact ⟨_, (true), (by first | rfl | (simp; done) | (simp [*]; done)), H', ⟨by have := HJ1.out; have := HK2.out; first | omega | exact Nat.le_refl _⟩, ⟨bq0_ HB.out⟩⟩
        case rest =>
         clear HC8
         try clear c1
         try clear p2
         try clear c3
         try clear p3
         try clear q3
         try clear hx3
         try clear c14
         try clear c14b0
         try clear c14b1
         try clear c16
         try clear hx325_0
         try clear hx325_1
         try clear hx325_2
         try clear hx327_0
         try clear hx327_1
         try clear hx327_2
         try clear hx328_0
         try clear hx328_1
         try clear hx328_2
         try clear p325
         try clear p327
         try clear p328
         try clear q325
         try clear q327
         try clear q328
         obtain ⟨kq, x52_7, rfl, HA, HJ7, HB⟩ := hcut
         cases kq with
         | zero => exact absurd HA.out (by simp [fullerref10_Check.j2])
         | succ kj7 =>
          have H := HA.out
          clear HA
          simp only [fullerref10_Check.j2] at H
          by_cases c17 : x52_7 = true
          ·subst c17
           have H1 : (some false) = some r := by rw [if_pos rfl] at H; exact H
           clear H
           have H := H1
           clear H1
           obtain rfl := Option.some.inj H
           go_wp2
           go_ret
           exact ⟨by first | rfl | (simp <;> rfl) | (simp [*] <;> rfl), bq0_ HB.out⟩
          ·replace c17 := Bool.eq_false_iff.mpr c17
           subst c17
           have H1 : (fullerref10_Check.l1 kj7 l0 x3_2 0) = some r := by rw [if_neg (show ¬ (false = true) by decide)] at H; exact H
           clear H
           have H := H1
           clear H1
           have H' := Aside0.mk H
           clear H
           go_wp2
           go_loopg [5] kj7 (fun kq v5 w' => ∃ (x5_4 : Int), v5 = .int .i64 x5_4 ∧ Aside0 (fullerref10_Check.l1 kq l0 x3_2 x5_4 = some r) ∧ Aside0 (kq ≤ kj7) ∧ Aside0 (Below w.heap.size w w'))
           case atStart => exact ⟨(0), (by first | rfl | (simp; done) | (simp [*]; done)), H', ⟨Nat.le_refl _⟩, ⟨bq0_ HB.out⟩⟩
           case round =>
            clear H'
            try clear c1
            try clear p2
            try clear c3
            try clear p3
            try clear q3
            try clear hx3
            try clear c14
            try clear c14b0
            try clear c14b1
            try clear c16
            try clear c17
            try clear hx325_0
            try clear hx325_1
            try clear hx325_2
            try clear hx327_0
            try clear hx327_1
            try clear hx327_2
            try clear hx328_0
            try clear hx328_1
            try clear hx328_2
            try clear p2
            try clear p3
            try clear p325
            try clear p327
            try clear p328
            try clear q3
            try clear q325
            try clear q327
            try clear q328
            obtain ⟨x5_4, rfl, HA, HK4, HB⟩ := hrel
            cases gk with
            | zero => exact absurd HA.out (by simp [fullerref10_Check.l1])
            | succ k4 =>
             have H := HA.out
             clear HA
             simp only [fullerref10_Check.l1] at H
             by_cases c18 : 0 ≤ x3_2
             ·rw [if_pos c18] at H
              have c18b0 : decide (0 ≤ x3_2) = true := decide_eq_true c18
              clear c18
              by_cases c19 : x3_2 < (l0.length : Int)
              ·rw [if_pos c19] at H
               have c19b0 : decide (x3_2 < (l0.length : Int)) = true := decide_eq_true c19
               clear c19
               by_cases c20 : x5_4 < (((rd_T35 l0 x3_2).f1).length : Int)
               ·rw [if_pos c20] at H
                have c20b0 : decide (x5_4 < (((rd_T35 l0 x3_2).f1).length : Int)) = true := decide_eq_true c20
                clear c20
                by_cases c21 : 0 ≤ x5_4
                ·rw [if_pos c21] at H
                 have c21b0 : decide (0 ≤ x5_4) = true := decide_eq_true c21
                 clear c21
                 by_cases c22 : (rd ((rd_T35 l0 x3_2).f1) x5_4) < 0
                 ·rw [if_pos c22] at H
                  have c22b0 : decide ((rd ((rd_T35 l0 x3_2).f1) x5_4) < 0) = true := decide_eq_true c22
                  clear c22
                  obtain rfl := Option.some.inj H
                  have p330 : 0 ≤ (x3_2 : Int) := od_
                  have q330 : x3_2 < (l0.length : Int) := od_
                  obtain ⟨ad330, A330_1, c330_1, A330_2, c330_2, e330, hx330_0, hx330_1, hx330_2, hl330_1, hi330_1, hl330_2, hi330_2⟩ := at_T35 HR0.out x3_2 p330 q330
                  obtain rfl : ad323 = ad330 := (by injection e330)
                  replace hx330_0 := (HB.out.cell (World.block_lt_of_cell? w _ hx330_0)).trans hx330_0
                  replace hx330_1 := (HB.out.cell (World.block_lt_of_cell? w _ hx330_1)).trans hx330_1
                  replace hx330_2 := (HB.out.cell (World.block_lt_of_cell? w _ hx330_2)).trans hx330_2
                  have HR330_1 := Aside0.mk hi330_1
                  have HC330_1 := Aside0.mk hl330_1
                  clear hi330_1 hl330_1
                  have HR330_2 := Aside0.mk hi330_2
                  have HC330_2 := Aside0.mk hl330_2
                  clear hi330_2 hl330_2
                  replace p330 := eq_true p330
                  replace q330 := eq_true q330
                  have p331 : 0 ≤ (x3_2 : Int) := od_
                  have q331 : x3_2 < (l0.length : Int) := od_
                  obtain ⟨ad331, A331_1, c331_1, A331_2, c331_2, e331, hx331_0, hx331_1, hx331_2, hl331_1, hi331_1, hl331_2, hi331_2⟩ := at_T35 HR0.out x3_2 p331 q331
                  obtain rfl : ad323 = ad331 := (by injection e331)
                  replace hx331_0 := (HB.out.cell (World.block_lt_of_cell? w _ hx331_0)).trans hx331_0
                  replace hx331_1 := (HB.out.cell (World.block_lt_of_cell? w _ hx331_1)).trans hx331_1
                  replace hx331_2 := (HB.out.cell (World.block_lt_of_cell? w _ hx331_2)).trans hx331_2
                  have HR331_1 := Aside0.mk hi331_1
                  have HC331_1 := Aside0.mk hl331_1
                  clear hi331_1 hl331_1
                  have HR331_2 := Aside0.mk hi331_2
                  have HC331_2 := Aside0.mk hl331_2
                  clear hi331_2 hl331_2
                  replace p331 := eq_true p331
                  replace q331 := eq_true q331
                  have ea_ := Option.some.inj (hx330_1.symm.trans hx331_1)
                  injection ea_ with ea_ en_ ec_
                  subst ea_
                  subst ec_
                  clear en_
                  have ea_ := Option.some.inj (hx330_2.symm.trans hx331_2)
                  injection ea_ with ea_ en_ ec_
                  subst ea_
                  subst ec_
                  clear en_
                  have p332 : 0 ≤ (x5_4 : Int) := od_
                  have q332 : x5_4 < (((rd_T35 l0 x3_2).f1).length : Int) := od_
                  obtain ⟨ad332, e332, hx332_0⟩ := Kd.at_int HR331_1.out x5_4 p332 q332
                  cases e332
                  replace hx332_0 := (HB.out.cell (World.block_lt_of_cell? w _ hx332_0)).trans hx332_0
                  replace p332 := eq_true p332
                  replace q332 := eq_true q332
                  go_wp2
                  go_ret
                  exact ⟨by first | rfl | (simp <;> rfl) | (simp [*] <;> rfl), bq0_ HB.out⟩
                 ·rw [if_neg c22] at H
                  have c22b0 : decide ((rd ((rd_T35 l0 x3_2).f1) x5_4) < 0) = false := decide_eq_false c22
                  clear c22
                  by_cases c23 : (rd ((rd_T35 l0 x3_2).f1) x5_4) ≥ x3_2
                  ·rw [if_pos c23] at H
                   have c23b0 : decide (x3_2 ≤ (rd ((rd_T35 l0 x3_2).f1) x5_4)) = true := decide_eq_true c23
                   clear c23
                   obtain rfl := Option.some.inj H
                   have p330 : 0 ≤ (x3_2 : Int) := od_
                   have q330 : x3_2 < (l0.length : Int) := od_
                   obtain ⟨ad330, A330_1, c330_1, A330_2, c330_2, e330, hx330_0, hx330_1, hx330_2, hl330_1, hi330_1, hl330_2, hi330_2⟩ := at_T35 HR0.out x3_2 p330 q330
                   obtain rfl : ad323 = ad330 := (by injection e330)
                   replace hx330_0 := (HB.out.cell (World.block_lt_of_cell? w _ hx330_0)).trans hx330_0
                   replace hx330_1 := (HB.out.cell (World.block_lt_of_cell? w _ hx330_1)).trans hx330_1
                   replace hx330_2 := (HB.out.cell (World.block_lt_of_cell? w _ hx330_2)).trans hx330_2
                   have HR330_1 := Aside0.mk hi330_1
                   have HC330_1 := Aside0.mk hl330_1
                   clear hi330_1 hl330_1
                   have HR330_2 := Aside0.mk hi330_2
                   have HC330_2 := Aside0.mk hl330_2
                   clear hi330_2 hl330_2
                   replace p330 := eq_true p330
                   replace q330 := eq_true q330
                   have p331 : 0 ≤ (x3_2 : Int) := od_
                   have q331 : x3_2 < (l0.length : Int) := od_
                   obtain ⟨ad331, A331_1, c331_1, A331_2, c331_2, e331, hx331_0, hx331_1, hx331_2, hl331_1, hi331_1, hl331_2, hi331_2⟩ := at_T35 HR0.out x3_2 p331 q331
                   obtain rfl : ad323 = ad331 := (by injection e331)
                   replace hx331_0 := (HB.out.cell (World.block_lt_of_cell? w _ hx331_0)).trans hx331_0
                   replace hx331_1 := (HB.out.cell (World.block_lt_of_cell? w _ hx331_1)).trans hx331_1
                   replace hx331_2 := (HB.out.cell (World.block_lt_of_cell? w _ hx331_2)).trans hx331_2
                   have HR331_1 := Aside0.mk hi331_1
                   have HC331_1 := Aside0.mk hl331_1
                   clear hi331_1 hl331_1
                   have HR331_2 := Aside0.mk hi331_2
                   have HC331_2 := Aside0.mk hl331_2
                   clear hi331_2 hl331_2
                   replace p331 := eq_true p331
                   replace q331 := eq_true q331
                   have ea_ := Option.some.inj (hx330_1.symm.trans hx331_1)
                   injection ea_ with ea_ en_ ec_
                   subst ea_
                   subst ec_
                   clear en_
                   have ea_ := Option.some.inj (hx330_2.symm.trans hx331_2)
                   injection ea_ with ea_ en_ ec_
                   subst ea_
                   subst ec_
                   clear en_
                   have p332 : 0 ≤ (x5_4 : Int) := od_
                   have q332 : x5_4 < (((rd_T35 l0 x3_2).f1).length : Int) := od_
                   obtain ⟨ad332, e332, hx332_0⟩ := Kd.at_int HR331_1.out x5_4 p332 q332
                   cases e332
                   replace hx332_0 := (HB.out.cell (World.block_lt_of_cell? w _ hx332_0)).trans hx332_0
                   replace p332 := eq_true p332
                   replace q332 := eq_true q332
                   have p333 : 0 ≤ (x3_2 : Int) := od_
                   have q333 : x3_2 < (l0.length : Int) := od_
                   obtain ⟨ad333, A333_1, c333_1, A333_2, c333_2, e333, hx333_0, hx333_1, hx333_2, hl333_1, hi333_1, hl333_2, hi333_2⟩ := at_T35 HR0.out x3_2 p333 q333
                   obtain rfl : ad323 = ad333 := (by injection e333)
                   replace hx333_0 := (HB.out.cell (World.block_lt_of_cell? w _ hx333_0)).trans hx333_0
                   replace hx333_1 := (HB.out.cell (World.block_lt_of_cell? w _ hx333_1)).trans hx333_1
                   replace hx333_2 := (HB.out.cell (World.block_lt_of_cell? w _ hx333_2)).trans hx333_2
                   have HR333_1 := Aside0.mk hi333_1
                   have HC333_1 := Aside0.mk hl333_1
                   clear hi333_1 hl333_1
                   have HR333_2 := Aside0.mk hi333_2
                   have HC333_2 := Aside0.mk hl333_2
                   clear hi333_2 hl333_2
                   replace p333 := eq_true p333
                   replace q333 := eq_true q333
                   have ea_ := Option.some.inj (hx330_1.symm.trans hx333_1)
                   injection ea_ with ea_ en_ ec_
                   subst ea_
                   subst ec_
                   clear en_
                   have ea_ := Option.some.inj (hx330_2.symm.trans hx333_2)
                   injection ea_ with ea_ en_ ec_
                   subst ea_
                   subst ec_
                   clear en_
                   have p334 : 0 ≤ (x5_4 : Int) := od_
                   have q334 : x5_4 < (((rd_T35 l0 x3_2).f1).length : Int) := od_
                   obtain ⟨ad334, e334, hx334_0⟩ := Kd.at_int HR333_1.out x5_4 p334 q334
                   cases e334
                   replace hx334_0 := (HB.out.cell (World.block_lt_of_cell? w _ hx334_0)).trans hx334_0
                   replace p334 := eq_true p334
                   replace q334 := eq_true q334
                   go_wp2
                   go_ret
                   exact ⟨by first | rfl | (simp <;> rfl) | (simp [*] <;> rfl), bq0_ HB.out⟩
                  ·rw [if_neg c23] at H
                   have c23b0 : decide (x3_2 ≤ (rd ((rd_T35 l0 x3_2).f1) x5_4)) = false := decide_eq_false c23
                   clear c23
                   have H' := Aside0.mk H
                   clear H
                   have p330 : 0 ≤ (x3_2 : Int) := od_
                   have q330 : x3_2 < (l0.length : Int) := od_
                   obtain ⟨ad330, A330_1, c330_1, A330_2, c330_2, e330, hx330_0, hx330_1, hx330_2, hl330_1, hi330_1, hl330_2, hi330_2⟩ := at_T35 HR0.out x3_2 p330 q330
                   obtain rfl : ad323 = ad330 := (by injection e330)
                   replace hx330_0 := (HB.out.cell (World.block_lt_of_cell? w _ hx330_0)).trans hx330_0
                   replace hx330_1 := (HB.out.cell (World.block_lt_of_cell? w _ hx330_1)).trans hx330_1
                   replace hx330_2 := (HB.out.cell (World.block_lt_of_cell? w _ hx330_2)).trans hx330_2
                   have HR330_1 := Aside0.mk hi330_1
                   have HC330_1 := Aside0.mk hl330_1
                   clear hi330_1 hl330_1
                   have HR330_2 := Aside0.mk hi330_2
                   have HC330_2 := Aside0.mk hl330_2
                   clear hi330_2 hl330_2
                   replace p330 := eq_true p330
                   replace q330 := eq_true q330
                   have p331 : 0 ≤ (x3_2 : Int) := od_
                   have q331 : x3_2 < (l0.length : Int) := od_
                   obtain ⟨ad331, A331_1, c331_1, A331_2, c331_2, e331, hx331_0, hx331_1, hx331_2, hl331_1, hi331_1, hl331_2, hi331_2⟩ := at_T35 HR0.out x3_2 p331 q331
                   obtain rfl : ad323 = ad331 := (by injection e331)
                   replace hx331_0 := (HB.out.cell (World.block_lt_of_cell? w _ hx331_0)).trans hx331_0
                   replace hx331_1 := (HB.out.cell (World.block_lt_of_cell? w _ hx331_1)).trans hx331_1
                   replace hx331_2 := (HB.out.cell (World.block_lt_of_cell? w _ hx331_2)).trans hx331_2
                   have HR331_1 := Aside0.mk hi331_1
                   have HC331_1 := Aside0.mk hl331_1
                   clear hi331_1 hl331_1
                   have HR331_2 := Aside0.mk hi331_2
                   have HC331_2 := Aside0.mk hl331_2
                   clear hi331_2 hl331_2
                   replace p331 := eq_true p331
                   replace q331 := eq_true q331
                   have ea_ := Option.some.inj (hx330_1.symm.trans hx331_1)
                   injection ea_ with ea_ en_ ec_
                   subst ea_
                   subst ec_
                   clear en_
                   have ea_ := Option.some.inj (hx330_2.symm.trans hx331_2)
                   injection ea_ with ea_ en_ ec_
                   subst ea_
                   subst ec_
                   clear en_
                   have p332 : 0 ≤ (x5_4 : Int) := od_
                   have q332 : x5_4 < (((rd_T35 l0 x3_2).f1).length : Int) := od_
                   obtain ⟨ad332, e332, hx332_0⟩ := Kd.at_int HR331_1.out x5_4 p332 q332
                   cases e332
                   replace hx332_0 := (HB.out.cell (World.block_lt_of_cell? w _ hx332_0)).trans hx332_0
                   replace p332 := eq_true p332
                   replace q332 := eq_true q332
                   have p333 : 0 ≤ (x3_2 : Int) := od_
                   have q333 : x3_2 < (l0.length : Int) := od_
                   obtain ⟨ad333, A333_1, c333_1, A333_2, c333_2, e333, hx333_0, hx333_1, hx333_2, hl333_1, hi333_1, hl333_2, hi333_2⟩ := at_T35 HR0.out x3_2 p333 q333
                   obtain rfl : ad323 = ad333 := (by injection e333)
                   replace hx333_0 := (HB.out.cell (World.block_lt_of_cell? w _ hx333_0)).trans hx333_0
                   replace hx333_1 := (HB.out.cell (World.block_lt_of_cell? w _ hx333_1)).trans hx333_1
                   replace hx333_2 := (HB.out.cell (World.block_lt_of_cell? w _ hx333_2)).trans hx333_2
                   have HR333_1 := Aside0.mk hi333_1
                   have HC333_1 := Aside0.mk hl333_1
                   clear hi333_1 hl333_1
                   have HR333_2 := Aside0.mk hi333_2
                   have HC333_2 := Aside0.mk hl333_2
                   clear hi333_2 hl333_2
                   replace p333 := eq_true p333
                   replace q333 := eq_true q333
                   have ea_ := Option.some.inj (hx330_1.symm.trans hx333_1)
                   injection ea_ with ea_ en_ ec_
                   subst ea_
                   subst ec_
                   clear en_
                   have ea_ := Option.some.inj (hx330_2.symm.trans hx333_2)
                   injection ea_ with ea_ en_ ec_
                   subst ea_
                   subst ec_
                   clear en_
                   have p334 : 0 ≤ (x5_4 : Int) := od_
                   have q334 : x5_4 < (((rd_T35 l0 x3_2).f1).length : Int) := od_
                   obtain ⟨ad334, e334, hx334_0⟩ := Kd.at_int HR333_1.out x5_4 p334 q334
                   cases e334
                   replace hx334_0 := (HB.out.cell (World.block_lt_of_cell? w _ hx334_0)).trans hx334_0
                   replace p334 := eq_true p334
                   replace q334 := eq_true q334
                   go_wp2
                   go_roundg k4
                   case measure => have := HJ1.out; have := HK2.out; have := HJ7.out; have := HK4.out; omega
                   case rel => exact ⟨(wrap64 (x5_4 + 1)), (by first | rfl | (simp; done) | (simp [*]; done)), H', ⟨by have := HJ1.out; have := HK2.out; have := HJ7.out; have := HK4.out; omega⟩, ⟨bq0_ HB.out⟩⟩
                ·rw [if_neg c21] at H
                 exact absurd H (by simp)
               ·rw [if_neg c20] at H
                have c20b0 : decide (x5_4 < (((rd_T35 l0 x3_2).f1).length : Int)) = false := decide_eq_false c20
                clear c20
                have H' := Aside0.mk H
                clear H
                have p330 : 0 ≤ (x3_2 : Int) := od_
                have q330 : x3_2 < (l0.length : Int) := od_
                obtain ⟨ad330, A330_1, c330_1, A330_2, c330_2, e330, hx330_0, hx330_1, hx330_2, hl330_1, hi330_1, hl330_2, hi330_2⟩ := at_T35 HR0.out x3_2 p330 q330
                obtain rfl : ad323 = ad330 := (by injection e330)
                replace hx330_0 := (HB.out.cell (World.block_lt_of_cell? w _ hx330_0)).trans hx330_0
                replace hx330_1 := (HB.out.cell (World.block_lt_of_cell? w _ hx330_1)).trans hx330_1
                replace hx330_2 := (HB.out.cell (World.block_lt_of_cell? w _ hx330_2)).trans hx330_2
                have HR330_1 := Aside0.mk hi330_1
                have HC330_1 := Aside0.mk hl330_1
                clear hi330_1 hl330_1
                have HR330_2 := Aside0.mk hi330_2
                have HC330_2 := Aside0.mk hl330_2
                clear hi330_2 hl330_2
                replace p330 := eq_true p330
                replace q330 := eq_true q330
                go_wp2
                go_loopg [6] k4 (fun kq v6 w' => ∃ (x6_5 : Int), v6 = .int .i64 x6_5 ∧ Aside0 (fullerref10_Check.l2 kq l0 x3_2 x6_5 = some r) ∧ Aside0 (kq ≤ k4) ∧ Aside0 (Below w.heap.size w w'))
                case atStart => exact ⟨(0), (by first | rfl | (simp; done) | (simp [*]; done)), H', ⟨Nat.le_refl _⟩, ⟨bq0_ HB.out⟩⟩
                case round =>
                 clear H'
                 try clear c1
                 try clear c2
                 try clear p2
                 try clear c3
                 try clear p3
                 try clear q3
                 try clear hx3
                 try clear p6
                 try clear c14
                 try clear c14b0
                 try clear c14b1
                 try clear c16
                 try clear c17
                 try clear c18
                 try clear c18b0
                 try clear c19
                 try clear c19b0
                 try clear c20
                 try clear c20b0
                 try clear c21
                 try clear c21b0
                 try clear c22
                 try clear c22b0
                 try clear c23
                 try clear c23b0
                 try clear hx325_0
                 try clear hx325_1
                 try clear hx325_2
                 try clear hx327_0
                 try clear hx327_1
                 try clear hx327_2
                 try clear hx328_0
                 try clear hx328_1
                 try clear hx328_2
                 try clear hx330_0
                 try clear hx330_1
                 try clear hx330_2
                 try clear hx331_0
                 try clear hx331_1
                 try clear hx331_2
                 try clear hx332_0
                 try clear hx333_0
                 try clear hx333_1
                 try clear hx333_2
                 try clear hx334_0
                 try clear p2
                 try clear p3
                 try clear p325
                 try clear p327
                 try clear p328
                 try clear p330
                 try clear p331
                 try clear p332
                 try clear p333
                 try clear p334
                 try clear q3
                 try clear q325
                 try clear q327
                 try clear q328
                 try clear q330
                 try clear q331
                 try clear q332
                 try clear q333
                 try clear q334
                 obtain ⟨x6_5, rfl, HA, HK5, HB⟩ := hrel
                 cases gk with
                 | zero => exact absurd HA.out (by simp [fullerref10_Check.l2])
                 | succ k5 =>
                  have H := HA.out
                  clear HA
                  simp only [fullerref10_Check.l2] at H
                  by_cases c24 : x6_5 < x3_2
                  ·rw [if_pos c24] at H
                   have c24b0 : decide (x6_5 < x3_2) = true := decide_eq_true c24
                   clear c24
                   by_cases c25 : 0 ≤ x6_5
                   ·rw [if_pos c25] at H
                    have c25b0 : decide (0 ≤ x6_5) = true := decide_eq_true c25
                    clear c25
                    by_cases c26 : x6_5 < (l0.length : Int)
                    ·rw [if_pos c26] at H
                     have c26b0 : decide (x6_5 < (l0.length : Int)) = true := decide_eq_true c26
                     clear c26
                     by_cases c27 : 0 ≤ x3_2
                     ·rw [if_pos c27] at H
                      have c27b0 : decide (0 ≤ x3_2) = true := decide_eq_true c27
                      clear c27
                      by_cases c28 : x3_2 < (l0.length : Int)
                      ·rw [if_pos c28] at H
                       have c28b0 : decide (x3_2 < (l0.length : Int)) = true := decide_eq_true c28
                       clear c28
                       replace H := Option.bind_eq_some_iff.mp H
                       obtain ⟨t337, A290, H⟩ := H
                       replace H : (if t337 = true then (fullerref10_Check.l2 k5 l0 x3_2 (wrap64 (x6_5 + 1))) else (some false)) = some r := H
                       have A29 := Aside0.mk A290
                       clear A290
                       by_cases c30 : t337 = true
                       ·subst c30
                        have H1 : (fullerref10_Check.l2 k5 l0 x3_2 (wrap64 (x6_5 + 1))) = some r := by rw [if_pos rfl] at H; exact H
                        clear H
                        have H := H1
                        clear H1
                        have H' := Aside0.mk H
                        clear H
                        try go_wp2
                        replace HB := Aside0.mk (below_drew1 HB.out)
                        have p335 : 0 ≤ (x6_5 : Int) := od_
                        have q335 : x6_5 < (l0.length : Int) := od_
                        obtain ⟨ad335, A335_1, c335_1, A335_2, c335_2, e335, hx335_0, hx335_1, hx335_2, hl335_1, hi335_1, hl335_2, hi335_2⟩ := at_T35 HR0.out x6_5 p335 q335
                        have hw335_2 := hx335_2
                        have hw335_1 := hx335_1
                        have hw335_0 := hx335_0
                        obtain rfl : ad323 = ad335 := (by injection e335)
                        replace hx335_0 := (HB.out.cell (World.block_lt_of_cell? w _ hx335_0)).trans hx335_0
                        replace hx335_1 := (HB.out.cell (World.block_lt_of_cell? w _ hx335_1)).trans hx335_1
                        replace hx335_2 := (HB.out.cell (World.block_lt_of_cell? w _ hx335_2)).trans hx335_2
                        have HR335_1 := Aside0.mk hi335_1
                        have HC335_1 := Aside0.mk hl335_1
                        clear hi335_1 hl335_1
                        have HR335_2 := Aside0.mk hi335_2
                        have HC335_2 := Aside0.mk hl335_2
                        clear hi335_2 hl335_2
                        replace p335 := eq_true p335
                        replace q335 := eq_true q335
                        have p336 : 0 ≤ (x3_2 : Int) := od_
                        have q336 : x3_2 < (l0.length : Int) := od_
                        obtain ⟨ad336, A336_1, c336_1, A336_2, c336_2, e336, hx336_0, hx336_1, hx336_2, hl336_1, hi336_1, hl336_2, hi336_2⟩ := at_T35 HR0.out x3_2 p336 q336
                        have hw336_2 := hx336_2
                        have hw336_1 := hx336_1
                        have hw336_0 := hx336_0
                        obtain rfl : ad323 = ad336 := (by injection e336)
                        replace hx336_0 := (HB.out.cell (World.block_lt_of_cell? w _ hx336_0)).trans hx336_0
                        replace hx336_1 := (HB.out.cell (World.block_lt_of_cell? w _ hx336_1)).trans hx336_1
                        replace hx336_2 := (HB.out.cell (World.block_lt_of_cell? w _ hx336_2)).trans hx336_2
                        have HR336_1 := Aside0.mk hi336_1
                        have HC336_1 := Aside0.mk hl336_1
                        clear hi336_1 hl336_1
                        have HR336_2 := Aside0.mk hi336_2
                        have HC336_2 := Aside0.mk hl336_2
                        clear hi336_2 hl336_2
                        replace p336 := eq_true p336
                        replace q336 := eq_true q336
                        refine start_ (n := 10) (S := fun w' => w'.cell? (ad323.add ((x6_5).toNat * 3)) = some (.int .i64 ((rd_T35 l0 x6_5).f0)) ∧ w'.cell? ⟨(ad323.add ((x6_5).toNat * 3)).block, (ad323.add ((x6_5).toNat * 3)).off + 1, none⟩ = some (.slice A335_1 ((rd_T35 l0 x6_5).f1).length c335_1) ∧ w'.cell? ⟨(ad323.add ((x6_5).toNat * 3)).block, (ad323.add ((x6_5).toNat * 3)).off + 2, none⟩ = some (.slice A335_2 ((rd_T35 l0 x6_5).f2).length c335_2) ∧ w'.cell? (ad323.add ((x3_2).toNat * 3)) = some (.int .i64 ((rd_T35 l0 x3_2).f0)) ∧ w'.cell? ⟨(ad323.add ((x3_2).toNat * 3)).block, (ad323.add ((x3_2).toNat * 3)).off + 1, none⟩ = some (.slice A336_1 ((rd_T35 l0 x3_2).f1).length c336_1) ∧ w'.cell? ⟨(ad323.add ((x3_2).toNat * 3)).block, (ad323.add ((x3_2).toNat * 3)).off + 2, none⟩ = some (.slice A336_2 ((rd_T35 l0 x3_2).f2).length c336_2)) (ds := []) L14_27 (by kernel_rfl) rfl rfl ⟨((HB.out.cell (World.block_lt_of_cell? w _ hw335_0)).trans hw335_0), ((HB.out.cell (World.block_lt_of_cell? w _ hw335_1)).trans hw335_1), ((HB.out.cell (World.block_lt_of_cell? w _ hw335_2)).trans hw335_2), ((HB.out.cell (World.block_lt_of_cell? w _ hw336_0)).trans hw336_0), ((HB.out.cell (World.block_lt_of_cell? w _ hw336_1)).trans hw336_1), ((HB.out.cell (World.block_lt_of_cell? w _ hw336_2)).trans hw336_2)⟩ (fun hHeld => ?_); refine with_tabW fullerref10_Check.tab17 fullerref10_Check.bits17 (fun HT_ HW_ => ?_)
                        generalize wr.drew = w31 at HB HR335_1 HR335_2 HR336_1 HR336_2 hx335_0 hx335_1 hx335_2 hx336_0 hx336_1 hx336_2 hHeld ⊢
                        refine pu_ 0 (some 89) L14_28 HT_ ?_
                        refine pu_ 1 (some 90) L14_29 HT_ ?_
                        refine pu_ 2 (some 91) L14_30 HT_ ?_
                        refine pu_ 4 (some 93) L14_31 HT_ ?_
                        refine pu_ 5 (some 94) L14_32 HT_ ?_
                        refine pu_ 6 (some 95) L14_33 HT_ ?_
                        refine ta_ 3 (some 92) L14_34 HT_ HW_ hHeld ?_ (hy := by rintro w' ⟨s0, s1, s2, s3, s4, s5⟩; go_simp; with_reducible rfl)
                        refine ta_ 7 (some 96) L14_35 HT_ HW_ hHeld ?_ (hy := by rintro w' ⟨s0, s1, s2, s3, s4, s5⟩; go_simp; with_reducible rfl)
                        refine one_ (i := 8) (N := some 97) L14_36 rfl rfl (one_of HT_.out (by kernel_rfl)) (by decide) (fun K hK => ?_)
                        refine goes_ Try.func35 (by kernel_rfl) rfl #[.agg #[.int .i64 ((rd_T35 l0 x6_5).f0), .slice A335_1 ((rd_T35 l0 x6_5).f1).length c335_1, .slice A335_2 ((rd_T35 l0 x6_5).f2).length c335_2], .agg #[.int .i64 ((rd_T35 l0 x3_2).f0), .slice A336_1 ((rd_T35 l0 x3_2).f1).length c336_1, .slice A336_2 ((rd_T35 l0 x3_2).f2).length c336_2]] (by rfl) rfl rfl (by (try simp only [List.map_toArray, List.map_cons, List.map_nil]); first | done | rfl | (simp only [List.length_drop, List.length_take]; rfl)) ?_
                        with_reducible refine (fullerref10_like.calls k5 ((rd_T35 l0 x6_5).f0) _ _ ((rd_T35 l0 x6_5).f1) _ _ ((rd_T35 l0 x6_5).f2) ((rd_T35 l0 x3_2).f0) _ _ ((rd_T35 l0 x3_2).f1) _ _ ((rd_T35 l0 x3_2).f2) true _ ?side1 ?side2 ?side3 ?side4 ?side5 ?side6 ?side7 ?side8 A29.out).mono ?_
                        (case side1 => exact mvC_ ((Kd.C_below HR335_1.out HB.out)))
                        (case side2 => exact HC335_1.out)
                        (case side3 => exact mvC_ ((Kd.C_below HR335_2.out HB.out)))
                        (case side4 => exact HC335_2.out)
                        (case side5 => exact mvC_ ((Kd.C_below HR336_1.out HB.out)))
                        (case side6 => exact HC336_1.out)
                        (case side7 => exact mvC_ ((Kd.C_below HR336_2.out HB.out)))
                        (case side8 => exact HC336_2.out)
                        rintro e w32 ⟨rfl, hb⟩
                        refine ⟨_, rfl, ?_⟩
                        replace HB := Aside0.mk (below_step (bq0_ HB.out) hb)
                        (try clear hb)
                        (try clear hb2)
                        (try clear hk)
                        (try clear hi)
                        refine hK.out _ _ ⟨((HB.out.cell (World.block_lt_of_cell? w _ hw335_0)).trans hw335_0), ((HB.out.cell (World.block_lt_of_cell? w _ hw335_1)).trans hw335_1), ((HB.out.cell (World.block_lt_of_cell? w _ hw335_2)).trans hw335_2), ((HB.out.cell (World.block_lt_of_cell? w _ hw336_0)).trans hw336_0), ((HB.out.cell (World.block_lt_of_cell? w _ hw336_1)).trans hw336_1), ((HB.out.cell (World.block_lt_of_cell? w _ hw336_2)).trans hw336_2)⟩ (fun hHeld => ?_)
                        clear hK K
                        refine norm_ (a' := ?_) ?_ ?_
                        rotate_left
                        ·show Act.put _ (some 97) _ = _
                         simp only [Act.put, sA_, sB_, sC_, i64_w, i32_w]
                         rfl
                        refine pu_ 9 (some 7) L14_37 HT_ ?_
                        refine done_ (done_of HT_.out (by kernel_rfl)) ?_
                        try go_wp2
                        go_roundg k5
                        case measure => have := HJ1.out; have := HK2.out; have := HJ7.out; have := HK4.out; have := HK5.out; omega
                        case rel => exact ⟨(wrap64 (x6_5 + 1)), (by first | rfl | (simp; done) | (simp [*]; done)), H', ⟨by have := HJ1.out; have := HK2.out; have := HJ7.out; have := HK4.out; have := HK5.out; omega⟩, ⟨bq0_ HB.out⟩⟩
                       ·replace c30 := Bool.eq_false_iff.mpr c30
                        subst c30
                        have H1 : (some false) = some r := by rw [if_neg (show ¬ (false = true) by decide)] at H; exact H
                        clear H
                        have H := H1
                        clear H1
                        obtain rfl := Option.some.inj H
                        try go_wp2
                        replace HB := Aside0.mk (below_drew1 HB.out)
                        have p335 : 0 ≤ (x6_5 : Int) := od_
                        have q335 : x6_5 < (l0.length : Int) := od_
                        obtain ⟨ad335, A335_1, c335_1, A335_2, c335_2, e335, hx335_0, hx335_1, hx335_2, hl335_1, hi335_1, hl335_2, hi335_2⟩ := at_T35 HR0.out x6_5 p335 q335
                        have hw335_2 := hx335_2
                        have hw335_1 := hx335_1
                        have hw335_0 := hx335_0
                        obtain rfl : ad323 = ad335 := (by injection e335)
                        replace hx335_0 := (HB.out.cell (World.block_lt_of_cell? w _ hx335_0)).trans hx335_0
                        replace hx335_1 := (HB.out.cell (World.block_lt_of_cell? w _ hx335_1)).trans hx335_1
                        replace hx335_2 := (HB.out.cell (World.block_lt_of_cell? w _ hx335_2)).trans hx335_2
                        have HR335_1 := Aside0.mk hi335_1
                        have HC335_1 := Aside0.mk hl335_1
                        clear hi335_1 hl335_1
                        have HR335_2 := Aside0.mk hi335_2
                        have HC335_2 := Aside0.mk hl335_2
                        clear hi335_2 hl335_2
                        replace p335 := eq_true p335
                        replace q335 := eq_true q335
                        have p336 : 0 ≤ (x3_2 : Int) := od_
                        have q336 : x3_2 < (l0.length : Int) := od_
                        obtain ⟨ad336, A336_1, c336_1, A336_2, c336_2, e336, hx336_0, hx336_1, hx336_2, hl336_1, hi336_1, hl336_2, hi336_2⟩ := at_T35 HR0.out x3_2 p336 q336
                        have hw336_2 := hx336_2
                        have hw336_1 := hx336_1
                        have hw336_0 := hx336_0
                        obtain rfl : ad323 = ad336 := (by injection e336)
                        replace hx336_0 := (HB.out.cell (World.block_lt_of_cell? w _ hx336_0)).trans hx336_0
                        replace hx336_1 := (HB.out.cell (World.block_lt_of_cell? w _ hx336_1)).trans hx336_1
                        replace hx336_2 := (HB.out.cell (World.block_lt_of_cell? w _ hx336_2)).trans hx336_2
                        have HR336_1 := Aside0.mk hi336_1
                        have HC336_1 := Aside0.mk hl336_1
                        clear hi336_1 hl336_1
                        have HR336_2 := Aside0.mk hi336_2
                        have HC336_2 := Aside0.mk hl336_2
                        clear hi336_2 hl336_2
                        replace p336 := eq_true p336
                        replace q336 := eq_true q336
                        refine start_ (n := 10) (S := fun w' => w'.cell? (ad323.add ((x6_5).toNat * 3)) = some (.int .i64 ((rd_T35 l0 x6_5).f0)) ∧ w'.cell? ⟨(ad323.add ((x6_5).toNat * 3)).block, (ad323.add ((x6_5).toNat * 3)).off + 1, none⟩ = some (.slice A335_1 ((rd_T35 l0 x6_5).f1).length c335_1) ∧ w'.cell? ⟨(ad323.add ((x6_5).toNat * 3)).block, (ad323.add ((x6_5).toNat * 3)).off + 2, none⟩ = some (.slice A335_2 ((rd_T35 l0 x6_5).f2).length c335_2) ∧ w'.cell? (ad323.add ((x3_2).toNat * 3)) = some (.int .i64 ((rd_T35 l0 x3_2).f0)) ∧ w'.cell? ⟨(ad323.add ((x3_2).toNat * 3)).block, (ad323.add ((x3_2).toNat * 3)).off + 1, none⟩ = some (.slice A336_1 ((rd_T35 l0 x3_2).f1).length c336_1) ∧ w'.cell? ⟨(ad323.add ((x3_2).toNat * 3)).block, (ad323.add ((x3_2).toNat * 3)).off + 2, none⟩ = some (.slice A336_2 ((rd_T35 l0 x3_2).f2).length c336_2)) (ds := []) L14_27 (by kernel_rfl) rfl rfl ⟨((HB.out.cell (World.block_lt_of_cell? w _ hw335_0)).trans hw335_0), ((HB.out.cell (World.block_lt_of_cell? w _ hw335_1)).trans hw335_1), ((HB.out.cell (World.block_lt_of_cell? w _ hw335_2)).trans hw335_2), ((HB.out.cell (World.block_lt_of_cell? w _ hw336_0)).trans hw336_0), ((HB.out.cell (World.block_lt_of_cell? w _ hw336_1)).trans hw336_1), ((HB.out.cell (World.block_lt_of_cell? w _ hw336_2)).trans hw336_2)⟩ (fun hHeld => ?_); refine with_tabW fullerref10_Check.tab17 fullerref10_Check.bits17 (fun HT_ HW_ => ?_)
                        generalize wr.drew = w33 at HB HR335_1 HR335_2 HR336_1 HR336_2 hx335_0 hx335_1 hx335_2 hx336_0 hx336_1 hx336_2 hHeld ⊢
                        refine pu_ 0 (some 89) L14_28 HT_ ?_
                        refine pu_ 1 (some 90) L14_29 HT_ ?_
                        refine pu_ 2 (some 91) L14_30 HT_ ?_
                        refine pu_ 4 (some 93) L14_31 HT_ ?_
                        refine pu_ 5 (some 94) L14_32 HT_ ?_
                        refine pu_ 6 (some 95) L14_33 HT_ ?_
                        refine ta_ 3 (some 92) L14_34 HT_ HW_ hHeld ?_ (hy := by rintro w' ⟨s0, s1, s2, s3, s4, s5⟩; go_simp; with_reducible rfl)
                        refine ta_ 7 (some 96) L14_35 HT_ HW_ hHeld ?_ (hy := by rintro w' ⟨s0, s1, s2, s3, s4, s5⟩; go_simp; with_reducible rfl)
                        refine one_ (i := 8) (N := some 97) L14_36 rfl rfl (one_of HT_.out (by kernel_rfl)) (by decide) (fun K hK => ?_)
                        refine goes_ Try.func35 (by kernel_rfl) rfl #[.agg #[.int .i64 ((rd_T35 l0 x6_5).f0), .slice A335_1 ((rd_T35 l0 x6_5).f1).length c335_1, .slice A335_2 ((rd_T35 l0 x6_5).f2).length c335_2], .agg #[.int .i64 ((rd_T35 l0 x3_2).f0), .slice A336_1 ((rd_T35 l0 x3_2).f1).length c336_1, .slice A336_2 ((rd_T35 l0 x3_2).f2).length c336_2]] (by rfl) rfl rfl (by (try simp only [List.map_toArray, List.map_cons, List.map_nil]); first | done | rfl | (simp only [List.length_drop, List.length_take]; rfl)) ?_
                        with_reducible refine (fullerref10_like.calls k5 ((rd_T35 l0 x6_5).f0) _ _ ((rd_T35 l0 x6_5).f1) _ _ ((rd_T35 l0 x6_5).f2) ((rd_T35 l0 x3_2).f0) _ _ ((rd_T35 l0 x3_2).f1) _ _ ((rd_T35 l0 x3_2).f2) false _ ?side1 ?side2 ?side3 ?side4 ?side5 ?side6 ?side7 ?side8 A29.out).mono ?_
                        (case side1 => exact mvC_ ((Kd.C_below HR335_1.out HB.out)))
                        (case side2 => exact HC335_1.out)
                        (case side3 => exact mvC_ ((Kd.C_below HR335_2.out HB.out)))
                        (case side4 => exact HC335_2.out)
                        (case side5 => exact mvC_ ((Kd.C_below HR336_1.out HB.out)))
                        (case side6 => exact HC336_1.out)
                        (case side7 => exact mvC_ ((Kd.C_below HR336_2.out HB.out)))
                        (case side8 => exact HC336_2.out)
                        rintro e w34 ⟨rfl, hb⟩
                        refine ⟨_, rfl, ?_⟩
                        replace HB := Aside0.mk (below_step (bq0_ HB.out) hb)
                        (try clear hb)
                        (try clear hb2)
                        (try clear hk)
                        (try clear hi)
                        refine hK.out _ _ ⟨((HB.out.cell (World.block_lt_of_cell? w _ hw335_0)).trans hw335_0), ((HB.out.cell (World.block_lt_of_cell? w _ hw335_1)).trans hw335_1), ((HB.out.cell (World.block_lt_of_cell? w _ hw335_2)).trans hw335_2), ((HB.out.cell (World.block_lt_of_cell? w _ hw336_0)).trans hw336_0), ((HB.out.cell (World.block_lt_of_cell? w _ hw336_1)).trans hw336_1), ((HB.out.cell (World.block_lt_of_cell? w _ hw336_2)).trans hw336_2)⟩ (fun hHeld => ?_)
                        clear hK K
                        refine norm_ (a' := ?_) ?_ ?_
                        rotate_left
                        ·show Act.put _ (some 97) _ = _
                         simp only [Act.put, sA_, sB_, sC_, i64_w, i32_w]
                         rfl
                        refine pu_ 9 (some 7) L14_37 HT_ ?_
                        refine done_ (done_of HT_.out (by kernel_rfl)) ?_
                        try go_wp2
                        go_ret
                        exact ⟨by first | rfl | (simp <;> rfl) | (simp [*] <;> rfl), bq0_ HB.out⟩
                      ·rw [if_neg c28] at H
                       exact absurd H (by simp)
                     ·rw [if_neg c27] at H
                      exact absurd H (by simp)
                    ·rw [if_neg c26] at H
                     exact absurd H (by simp)
                   ·rw [if_neg c25] at H
                    exact absurd H (by simp)
                  ·rw [if_neg c24] at H
                   have c24b0 : decide (x6_5 < x3_2) = false := decide_eq_false c24
                   clear c24
                   have H' := Aside0.mk H
                   clear H
                   go_wp2
                   go_roundg k5
                   case measure => have := HJ1.out; have := HK2.out; have := HJ7.out; have := HK4.out; have := HK5.out; omega
                   case rel => exact ⟨(wrap64 (x3_2 + 1)), (by first | rfl | (simp; done) | (simp [*]; done)), H', ⟨by have := HJ1.out; have := HK2.out; have := HJ7.out; have := HK4.out; have := HK5.out; omega⟩, ⟨bq0_ HB.out⟩⟩
              ·rw [if_neg c19] at H
               exact absurd H (by simp)
             ·rw [if_neg c18] at H
              exact absurd H (by simp)
       ·rw [if_neg c6] at H
        exact absurd H (by simp)
      ·rw [if_neg c5] at H
       have c5b0 : decide (x3_2 < (l0.length : Int)) = false := decide_eq_false c5
       clear c5
       obtain rfl := Option.some.inj H
       go_wp2
       go_ret
       exact ⟨by first | rfl | (simp <;> rfl) | (simp [*] <;> rfl), bq0_ HB.out⟩

end Go.Proofs.Ytklnbfdoklcmfaa.A
