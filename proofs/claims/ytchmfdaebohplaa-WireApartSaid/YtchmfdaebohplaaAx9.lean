/- Lean functions that answer as the Go functions do, and the proofs that they do; no conditions. Written by this session's own driver: a scratch copy of the kit's print with the session's additions (wip/xprint). -/
import Derived.Test.YtchmfdaebohplaaAx0
import Derived.Test.YtchmfdaebohplaaAx7
import Derived.Test.YtchmfdaebohplaaAx8
namespace Go.Proofs.Ytchmfdaebohplaa.A
open Go.RowKit Go.Proofs.YtchmfdaebohplaaW.PrintWords Go.Proofs.YtchmfdaebohplaaW.PrintLast Go.Proofs.YtchmfdaebohplaaW.PrintMore
attribute [local go_sem] max2_int min2_int max_two min_two max_three min_three max_four min_four   -- for this text's walks alone
set_option linter.unusedVariables false
set_option linter.unusedSimpArgs false

def L17_0 : Array Bool := #[false, false, false, false, false, false, false, false, false, false, false, false, false, false, false, false, false, false, false, false, false, false, false, false, false, false]
def L17_1 : Array Bool := #[true, false, false, false, false, false, false, false, false, false, false, false, false, false, false, false, false, false, false, false, false, false, false, false, false, false]
def L17_2 : Array Bool := #[true, true, false, false, false, false, false, false, false, false, false, false, false, false, false, false, false, false, false, false, false, false, false, false, false, false]
def L17_3 : Array Bool := #[true, true, true, false, false, false, false, false, false, false, false, false, false, false, false, false, false, false, false, false, false, false, false, false, false, false]
def L17_4 : Array Bool := #[true, true, true, true, false, false, false, false, false, false, false, false, false, false, false, false, false, false, false, false, false, false, false, false, false, false]
def L17_5 : Array Bool := #[true, true, true, true, true, false, false, false, false, false, false, false, false, false, false, false, false, false, false, false, false, false, false, false, false, false]
def L17_6 : Array Bool := #[true, true, true, true, true, true, false, false, false, false, false, false, false, false, false, false, false, false, false, false, false, false, false, false, false, false]
def L17_7 : Array Bool := #[true, true, true, true, true, true, true, false, false, false, false, false, false, false, false, false, false, false, false, false, false, false, false, false, false, false]
def L17_8 : Array Bool := #[true, true, true, true, true, true, true, true, false, false, false, false, false, false, false, false, false, false, false, false, false, false, false, false, false, false]
def L17_9 : Array Bool := #[true, true, true, true, true, true, true, true, true, true, true, true, true, true, true, true, true, true, true, true, true, false, false, false, false, false]
def L17_10 : Array Bool := #[true, true, true, true, true, true, true, true, true, true, true, true, true, true, true, true, true, true, true, true, true, true, false, false, false, false]
def L17_11 : Array Bool := #[true, true, true, true, true, true, true, true, true, true, true, true, true, true, true, true, true, true, true, true, true, true, true, false, false, false]
def L17_12 : Array Bool := #[true, true, true, true, true, true, true, true, true, true, true, true, true, true, true, true, true, true, true, true, true, true, true, true, true, false]
def L17_13 : Array Bool := #[true, true, true, true, true, true, true, true, true, true, true, true, true, true, true, true, true, true, true, true, true, true, true, true, true, true]
def L17_14 : Array Bool := #[true, true, true, true, true, true, true, true, true, false, false, false, false, false, false, false, false, false, false, false, false, false, false, false, false, false]
def L17_15 : Array Bool := #[true, true, true, true, true, true, true, true, true, true, false, false, false, false, false, false, false, false, false, false, false, false, false, false, false, false]
def L17_16 : Array Bool := #[true, true, true, true, true, true, true, true, true, true, true, false, false, false, false, false, false, false, false, false, false, false, false, false, false, false]
def L17_17 : Array Bool := #[true, true, true, true, true, true, true, true, true, true, true, true, false, false, false, false, false, false, false, false, false, false, false, false, false, false]
def L17_18 : Array Bool := #[true, true, true, true, true, true, true, true, true, true, true, true, false, false, true, false, false, false, false, false, false, false, false, false, false, false]
def L17_19 : Array Bool := #[true, true, true, true, true, true, true, true, true, true, true, true, false, false, true, true, false, false, false, false, false, false, false, false, false, false]
def L17_20 : Array Bool := #[true, true, true, true, true, true, true, true, true, true, true, true, false, false, true, true, true, false, false, false, false, false, false, false, false, false]
def L17_21 : Array Bool := #[true, true, true, true, true, true, true, true, true, true, true, true, false, false, true, true, true, true, false, false, false, false, false, false, false, false]
def L17_22 : Array Bool := #[true, true, true, true, true, true, true, true, true, true, true, true, true, false, true, true, true, true, false, false, false, false, false, false, false, false]
def L17_23 : Array Bool := #[true, true, true, true, true, true, true, true, true, true, true, true, true, true, true, true, true, true, false, false, false, false, false, false, false, false]
def L17_24 : Array Bool := #[true, true, true, true, true, true, true, true, true, true, true, true, true, true, true, true, true, true, true, false, false, false, false, false, false, false]
def L17_25 : Array Bool := #[true, true, true, true, true, true, true, true, true, true, true, true, true, true, true, true, true, true, true, true, false, false, false, false, false, false]
def L17_26 : Array Bool := #[true, true, true, true, true, true, true, true, true, true, true, true, true, true, true, true, true, true, true, true, true, true, true, true, false, false]
def L17_27 : Array Bool := #[false, false, false, false, false, false, false, false, false, false]
def L17_28 : Array Bool := #[true, false, false, false, false, false, false, false, false, false]
def L17_29 : Array Bool := #[true, true, false, false, false, false, false, false, false, false]
def L17_30 : Array Bool := #[true, true, true, false, false, false, false, false, false, false]
def L17_31 : Array Bool := #[true, true, true, false, true, false, false, false, false, false]
def L17_32 : Array Bool := #[true, true, true, false, true, true, false, false, false, false]
def L17_33 : Array Bool := #[true, true, true, false, true, true, true, false, false, false]
def L17_34 : Array Bool := #[true, true, true, true, true, true, true, false, false, false]
def L17_35 : Array Bool := #[true, true, true, true, true, true, true, true, false, false]
def L17_36 : Array Bool := #[true, true, true, true, true, true, true, true, true, false]
def L17_37 : Array Bool := #[true, true, true, true, true, true, true, true, true, true]
/-! ### fullerref10_Check: function 17 -/
mutual
def fullerref10_Check.j0 : Nat → List (S36) → Bool → Option (Bool)
 | 0, _, _ => none
 | k + 1, x0, x15 => if x15 = true then (some false) else (fullerref10_Check.l0 k x0 0)
def fullerref10_Check.l0 : Nat → List (S36) → Int → Option (Bool)
 | 0, _, _ => none
 | k + 1, x0, x3 => if x3 < (x0.length : Int) then (if 0 ≤ x3 then ((fullerref10_nums.f k ((rd_T36 x0 x3).f0) ((rd_T36 x0 x3).f1) ((rd_T36 x0 x3).f2)).bind fun t196 => ((fullerref10_Arity.f k ((rd_T36 x0 x3).f0)).bind fun t198 => (if t198 < 0 then (fullerref10_Check.j2 k x0 x3 true) else ((fullerref10_Arity.f k ((rd_T36 x0 x3).f0)).bind fun t201 => (if (((rd_T36 x0 x3).f1).length : Int) = t201 then (fullerref10_Check.j2 k x0 x3 (!t196)) else (fullerref10_Check.j2 k x0 x3 true)))))) else (none)) else (some true)
def fullerref10_Check.j2 : Nat → List (S36) → Int → Bool → Option (Bool)
 | 0, _, _, _ => none
 | k + 1, x0, x3, x52 => if x52 = true then (some false) else (fullerref10_Check.l1 k x0 x3 0)
def fullerref10_Check.l1 : Nat → List (S36) → Int → Int → Option (Bool)
 | 0, _, _, _ => none
 | k + 1, x0, x3, x5 => if 0 ≤ x3 then (if x3 < (x0.length : Int) then (if x5 < (((rd_T36 x0 x3).f1).length : Int) then (if 0 ≤ x5 then (if (rd ((rd_T36 x0 x3).f1) x5) < 0 then (some false) else (if (rd ((rd_T36 x0 x3).f1) x5) ≥ x3 then (some false) else (fullerref10_Check.l1 k x0 x3 (wrap64 (x5 + 1))))) else (none)) else (fullerref10_Check.l2 k x0 x3 0)) else (none)) else (none)
def fullerref10_Check.l2 : Nat → List (S36) → Int → Int → Option (Bool)
 | 0, _, _, _ => none
 | k + 1, x0, x3, x6 => if x6 < x3 then (if 0 ≤ x6 then (if x6 < (x0.length : Int) then (if 0 ≤ x3 then (if x3 < (x0.length : Int) then ((fullerref10_like.f k ((rd_T36 x0 x6).f0) ((rd_T36 x0 x6).f1) ((rd_T36 x0 x6).f2) ((rd_T36 x0 x3).f0) ((rd_T36 x0 x3).f1) ((rd_T36 x0 x3).f2)).bind fun t209 => (if t209 = true then (fullerref10_Check.l2 k x0 x3 (wrap64 (x6 + 1))) else (some false))) else (none)) else (none)) else (none)) else (none)) else (fullerref10_Check.l0 k x0 (wrap64 (x3 + 1)))
end
def fullerref10_Check.f (k : Nat) (l0 : List (S36)) : Option (Bool) := if (l0.length : Int) < 1 then (fullerref10_Check.j0 k l0 true) else (fullerref10_Check.j0 k l0 (decide ((l0.length : Int) > 24)))
theorem fullerref10_Check.mono_l : ∀ k, (∀ y0 y1, LeO (fullerref10_Check.j0 k y0 y1) (fullerref10_Check.j0 (k + 1) y0 y1)) ∧ (∀ y0 y1, LeO (fullerref10_Check.l0 k y0 y1) (fullerref10_Check.l0 (k + 1) y0 y1)) ∧ (∀ y0 y1 y2, LeO (fullerref10_Check.j2 k y0 y1 y2) (fullerref10_Check.j2 (k + 1) y0 y1 y2)) ∧ (∀ y0 y1 y2, LeO (fullerref10_Check.l1 k y0 y1 y2) (fullerref10_Check.l1 (k + 1) y0 y1 y2)) ∧ (∀ y0 y1 y2, LeO (fullerref10_Check.l2 k y0 y1 y2) (fullerref10_Check.l2 (k + 1) y0 y1 y2))
 | 0 => ⟨fun _ _ r h => by simp [fullerref10_Check.j0] at h, fun _ _ r h => by simp [fullerref10_Check.l0] at h, fun _ _ _ r h => by simp [fullerref10_Check.j2] at h, fun _ _ _ r h => by simp [fullerref10_Check.l1] at h, fun _ _ _ r h => by simp [fullerref10_Check.l2] at h⟩
 | k + 1 => by
  obtain ⟨ih0, ih1, ih2, ih3, ih4⟩ := fullerref10_Check.mono_l k
  refine ⟨?_, ?_, ?_, ?_, ?_⟩
  ·intro y0 y1
   unfold fullerref10_Check.j0
   repeat' first
   | (with_reducible exact ih0 _ _)
   | (with_reducible exact ih1 _ _)
   | (with_reducible exact ih2 _ _ _)
   | (with_reducible exact ih3 _ _ _)
   | (with_reducible exact ih4 _ _ _)
   | (with_reducible exact fullerref10_Arity.mono _ _)
   | (with_reducible exact fullerref10_like.mono _ _ _ _ _ _ _)
   | (with_reducible exact fullerref10_nums.mono _ _ _ _)
   | (with_reducible exact LeO.refl _)
   | (with_reducible exact LeO.none _)
   | (with_reducible refine LeO.ite ?_ ?_)
   | (with_reducible refine LeO.bind ?_ (fun _ => ?_))
   | exact ih0 _ _
   | exact ih1 _ _
   | exact ih2 _ _ _
   | exact ih3 _ _ _
   | exact ih4 _ _ _
   | exact fullerref10_Arity.mono _ _
   | exact fullerref10_like.mono _ _ _ _ _ _ _
   | exact fullerref10_nums.mono _ _ _ _
   | exact LeO.none _
   | refine LeO.ite ?_ ?_
   | refine LeO.bind ?_ (fun _ => ?_)
  ·intro y0 y1
   unfold fullerref10_Check.l0
   repeat' first
   | (with_reducible exact ih0 _ _)
   | (with_reducible exact ih1 _ _)
   | (with_reducible exact ih2 _ _ _)
   | (with_reducible exact ih3 _ _ _)
   | (with_reducible exact ih4 _ _ _)
   | (with_reducible exact fullerref10_Arity.mono _ _)
   | (with_reducible exact fullerref10_like.mono _ _ _ _ _ _ _)
   | (with_reducible exact fullerref10_nums.mono _ _ _ _)
   | (with_reducible exact LeO.refl _)
   | (with_reducible exact LeO.none _)
   | (with_reducible refine LeO.ite ?_ ?_)
   | (with_reducible refine LeO.bind ?_ (fun _ => ?_))
   | exact ih0 _ _
   | exact ih1 _ _
   | exact ih2 _ _ _
   | exact ih3 _ _ _
   | exact ih4 _ _ _
   | exact fullerref10_Arity.mono _ _
   | exact fullerref10_like.mono _ _ _ _ _ _ _
   | exact fullerref10_nums.mono _ _ _ _
   | exact LeO.none _
   | refine LeO.ite ?_ ?_
   | refine LeO.bind ?_ (fun _ => ?_)
  ·intro y0 y1 y2
   unfold fullerref10_Check.j2
   repeat' first
   | (with_reducible exact ih0 _ _)
   | (with_reducible exact ih1 _ _)
   | (with_reducible exact ih2 _ _ _)
   | (with_reducible exact ih3 _ _ _)
   | (with_reducible exact ih4 _ _ _)
   | (with_reducible exact fullerref10_Arity.mono _ _)
   | (with_reducible exact fullerref10_like.mono _ _ _ _ _ _ _)
   | (with_reducible exact fullerref10_nums.mono _ _ _ _)
   | (with_reducible exact LeO.refl _)
   | (with_reducible exact LeO.none _)
   | (with_reducible refine LeO.ite ?_ ?_)
   | (with_reducible refine LeO.bind ?_ (fun _ => ?_))
   | exact ih0 _ _
   | exact ih1 _ _
   | exact ih2 _ _ _
   | exact ih3 _ _ _
   | exact ih4 _ _ _
   | exact fullerref10_Arity.mono _ _
   | exact fullerref10_like.mono _ _ _ _ _ _ _
   | exact fullerref10_nums.mono _ _ _ _
   | exact LeO.none _
   | refine LeO.ite ?_ ?_
   | refine LeO.bind ?_ (fun _ => ?_)
  ·intro y0 y1 y2
   unfold fullerref10_Check.l1
   repeat' first
   | (with_reducible exact ih0 _ _)
   | (with_reducible exact ih1 _ _)
   | (with_reducible exact ih2 _ _ _)
   | (with_reducible exact ih3 _ _ _)
   | (with_reducible exact ih4 _ _ _)
   | (with_reducible exact fullerref10_Arity.mono _ _)
   | (with_reducible exact fullerref10_like.mono _ _ _ _ _ _ _)
   | (with_reducible exact fullerref10_nums.mono _ _ _ _)
   | (with_reducible exact LeO.refl _)
   | (with_reducible exact LeO.none _)
   | (with_reducible refine LeO.ite ?_ ?_)
   | (with_reducible refine LeO.bind ?_ (fun _ => ?_))
   | exact ih0 _ _
   | exact ih1 _ _
   | exact ih2 _ _ _
   | exact ih3 _ _ _
   | exact ih4 _ _ _
   | exact fullerref10_Arity.mono _ _
   | exact fullerref10_like.mono _ _ _ _ _ _ _
   | exact fullerref10_nums.mono _ _ _ _
   | exact LeO.none _
   | refine LeO.ite ?_ ?_
   | refine LeO.bind ?_ (fun _ => ?_)
  ·intro y0 y1 y2
   unfold fullerref10_Check.l2
   repeat' first
   | (with_reducible exact ih0 _ _)
   | (with_reducible exact ih1 _ _)
   | (with_reducible exact ih2 _ _ _)
   | (with_reducible exact ih3 _ _ _)
   | (with_reducible exact ih4 _ _ _)
   | (with_reducible exact fullerref10_Arity.mono _ _)
   | (with_reducible exact fullerref10_like.mono _ _ _ _ _ _ _)
   | (with_reducible exact fullerref10_nums.mono _ _ _ _)
   | (with_reducible exact LeO.refl _)
   | (with_reducible exact LeO.none _)
   | (with_reducible refine LeO.ite ?_ ?_)
   | (with_reducible refine LeO.bind ?_ (fun _ => ?_))
   | exact ih0 _ _
   | exact ih1 _ _
   | exact ih2 _ _ _
   | exact ih3 _ _ _
   | exact ih4 _ _ _
   | exact fullerref10_Arity.mono _ _
   | exact fullerref10_like.mono _ _ _ _ _ _ _
   | exact fullerref10_nums.mono _ _ _ _
   | exact LeO.none _
   | refine LeO.ite ?_ ?_
   | refine LeO.bind ?_ (fun _ => ?_)
theorem fullerref10_Check.mono : ∀ a0 k, LeO (fullerref10_Check.f k a0) (fullerref10_Check.f (k + 1) a0) := by
 intro a0 k
 obtain ⟨ih0, ih1, ih2, ih3, ih4⟩ := fullerref10_Check.mono_l k
 unfold fullerref10_Check.f
 repeat' first
   | (with_reducible exact ih0 _ _)
   | (with_reducible exact ih1 _ _)
   | (with_reducible exact ih2 _ _ _)
   | (with_reducible exact ih3 _ _ _)
   | (with_reducible exact ih4 _ _ _)
   | (with_reducible exact fullerref10_Arity.mono _ _)
   | (with_reducible exact fullerref10_like.mono _ _ _ _ _ _ _)
   | (with_reducible exact fullerref10_nums.mono _ _ _ _)
   | (with_reducible exact LeO.refl _)
   | (with_reducible exact LeO.none _)
   | (with_reducible refine LeO.ite ?_ ?_)
   | (with_reducible refine LeO.bind ?_ (fun _ => ?_))
   | exact ih0 _ _
   | exact ih1 _ _
   | exact ih2 _ _ _
   | exact ih3 _ _ _
   | exact ih4 _ _ _
   | exact fullerref10_Arity.mono _ _
   | exact fullerref10_like.mono _ _ _ _ _ _ _
   | exact fullerref10_nums.mono _ _ _ _
   | exact LeO.none _
   | refine LeO.ite ?_ ?_
   | refine LeO.bind ?_ (fun _ => ?_)
def fullerref10_Check.T7 : Bool × List (List Nat × List Nat) := (true, [([], []), ([], []), ([0, 1], [0, 1]), ([2], [2]), ([3], [3]), ([4], [4]), ([5], [5]), ([6, 5], [6]), ([7], [7]), ([7], [7]), ([8, 9, 7], [7, 8, 9]), ([10, 7], [7, 10]), ([11, 7], [7, 11]), ([12, 7], [7, 12]), ([7], [7]), ([7], [7]), ([14, 15, 7], [7, 14, 15]), ([16, 7], [7, 16]), ([17, 7], [7, 17]), ([18, 7, 7], [7, 18]), ([13, 19, 7], [7, 13, 19]), ([7, 20], [7, 20]), ([21, 19], [21]), ([22], [22]), ([23, 22], [22, 23]), ([22, 24], [22, 24])])
def fullerref10_Check.B7 : List Nat := [0, 0, 3, 7, 15, 31, 63, 127, 255, 255, 1023, 2047, 4095, 8191, 255, 255, 49407, 114943, 246015, 508159, 1048575, 2097151, 4194303, 8388607, 16777215, 33554431]
theorem fullerref10_Check.tab7 : rtab .any (opsOf Try.f17 7) = fullerref10_Check.T7 := by kernel_rfl
theorem fullerref10_Check.bits7 : waitsOk fullerref10_Check.T7.2 fullerref10_Check.B7 = true := by kernel_rfl
def fullerref10_Check.T17 : Bool × List (List Nat × List Nat) := (true, [([], []), ([], []), ([0, 1], [0, 1]), ([2], [2]), ([], []), ([], []), ([4, 5], [4, 5]), ([6], [6]), ([3, 7], [3, 7]), ([8, 8, 0, 1, 2, 3, 4, 5, 6, 7, 8], [8])])
def fullerref10_Check.B17 : List Nat := [0, 0, 3, 7, 0, 0, 48, 112, 255, 511]
theorem fullerref10_Check.tab17 : rtab .any (opsOf Try.f17 17) = fullerref10_Check.T17 := by kernel_rfl
theorem fullerref10_Check.bits17 : waitsOk fullerref10_Check.T17.2 fullerref10_Check.B17 = true := by kernel_rfl
set_option maxHeartbeats 8000000 in
set_option maxRecDepth 100000 in
theorem fullerref10_Check.calls (k : Nat) (A0 : Option Addr) (c0 : Nat) (l0 : List (S36)) (r : Bool) (w : World) (hr0 : Kd.C k36 w A0 l0.length l0) (hc0 : l0.length ≤ c0) (h : fullerref10_Check.f k l0 = some r) :
  Calls Try.prog 17 #[.slice A0 l0.length c0] w fun e w' => e = .returned (.bool r) ∧ Below w.heap.size w w' := by
 have hu36 := Try.underlying36
 have HR0 := Aside0.mk hr0
 have HC0 := Aside0.mk hc0
 clear hr0 hc0
 have HB := Aside0.mk (Below.refl w.heap.size w)
 have H : (if (l0.length : Int) < 1 then (fullerref10_Check.j0 k l0 true) else (fullerref10_Check.j0 k l0 (decide ((l0.length : Int) > 24)))) = some r := h
 clear h
 have HC2 := Aside0.mk H
 clear H
 go_enter Try.func17, Try.ntmps17
 go_upto_region 1 with (fail)
 go_cut [15] (fun v15 wc => ∃ (kq : Nat) (x15_1 : Bool), v15 = .bool x15_1 ∧ Aside0 (fullerref10_Check.j0 kq l0 x15_1 = some r) ∧ Aside0 (kq ≤ k) ∧ Aside0 (Below w.heap.size w wc))
 case first =>
  have H := HC2.out
  clear HC2
  by_cases c3 : (l0.length : Int) < 1
  ·rw [if_pos c3] at H
   have c3b0 : decide ((l0.length : Int) < 1) = true := decide_eq_true c3
   have c3b1 : decide (l0.length < 1) = true := decide_eq_true (by omega)
   clear c3
   (first | rw [c3b0] | (simp only [i64_w, i32_w]; rw [c3b0]) | skip)
   have H' := Aside0.mk H
   clear H
   go_wp2
   go_meet
   case rel => exact ⟨_, (true), (by first | rfl | (simp; done) | (simp [*]; done)), H', ⟨by first | omega | exact Nat.le_refl _⟩, ⟨by repeat (first | (with_reducible first | exact HB.out | apply below_alloc | apply pw_below_drewN | apply below_drew1) | exact HB.out)⟩⟩
  ·rw [if_neg c3] at H
   have c3b0 : decide ((l0.length : Int) < 1) = false := decide_eq_false c3
   have c3b1 : decide (l0.length < 1) = false := decide_eq_false (by omega)
   clear c3
   (first | rw [c3b0] | (simp only [i64_w, i32_w]; rw [c3b0]) | skip)
   have H' := Aside0.mk H
   clear H
   go_wp2
   go_meet
   case rel => exact ⟨_, (decide ((l0.length : Int) > 24)), (by first | rfl | (simp; done) | (simp [*]; done)), H', ⟨by first | omega | exact Nat.le_refl _⟩, ⟨by repeat (first | (with_reducible first | exact HB.out | apply below_alloc | apply pw_below_drewN | apply below_drew1) | exact HB.out)⟩⟩
 case rest =>
  clear HC2
  try clear c1
  try clear p2
  try clear c3
  try clear c3b0
  try clear c3b1
  obtain ⟨kq, x15_1, rfl, HA, HJ1, HB⟩ := hcut
  cases kq with
  | zero => exact absurd HA.out (by simp [fullerref10_Check.j0])
  | succ kj1 =>
   have H := HA.out
   clear HA
   simp only [fullerref10_Check.j0] at H
   by_cases c4 : x15_1 = true
   ·subst c4
    have H1 : (some false) = some r := by rw [if_pos rfl] at H; exact H
    clear H
    have H := H1
    clear H1
    obtain rfl := Option.some.inj H
    go_wp2
    go_ret
    exact ⟨by first | rfl | (simp [errW_none, errW_some] <;> rfl) | (simp [*, errW_none, errW_some] <;> rfl), by repeat (first | (with_reducible first | exact HB.out | apply below_alloc | apply pw_below_drewN | apply below_drew1) | exact HB.out)⟩
   ·replace c4 := Bool.eq_false_iff.mpr c4
    subst c4
    have H1 : (fullerref10_Check.l0 kj1 l0 0) = some r := by rw [if_neg (show ¬ (false = true) by decide)] at H; exact H
    clear H
    have H := H1
    clear H1
    have H' := Aside0.mk H
    clear H
    go_wp2
    go_loopg [3] kj1 (fun kq v3 w' => ∃ (x3_2 : Int), v3 = .int .i64 x3_2 ∧ Aside0 (fullerref10_Check.l0 kq l0 x3_2 = some r) ∧ Aside0 (kq ≤ kj1) ∧ Aside0 (Below w.heap.size w w'))
    case atStart => exact ⟨(0), (by first | rfl | (simp; done) | (simp [*]; done)), H', ⟨Nat.le_refl _⟩, ⟨by repeat (first | (with_reducible first | exact HB.out | apply below_alloc | apply pw_below_drewN | apply below_drew1) | exact HB.out)⟩⟩
    case round =>
     clear H'
     try clear c1
     try clear p2
     try clear c3
     try clear c3b0
     try clear c3b1
     try clear c4
     try clear p2
     obtain ⟨x3_2, rfl, HA, HK2, HB⟩ := hrel
     cases gk with
     | zero => exact absurd HA.out (by simp [fullerref10_Check.l0])
     | succ k2 =>
      have H := HA.out
      clear HA
      simp only [fullerref10_Check.l0] at H
      by_cases c5 : x3_2 < (l0.length : Int)
      ·rw [if_pos c5] at H
       have c5b0 : decide (x3_2 < (l0.length : Int)) = true := decide_eq_true c5
       clear c5
       by_cases c6 : 0 ≤ x3_2
       ·rw [if_pos c6] at H
        have c6b0 : decide (0 ≤ x3_2) = true := decide_eq_true c6
        clear c6
        replace H := Option.bind_eq_some_iff.mp H
        obtain ⟨t196, A70, H⟩ := H
        replace H : ((fullerref10_Arity.f k2 ((rd_T36 l0 x3_2).f0)).bind fun t198 => (if t198 < 0 then (fullerref10_Check.j2 k2 l0 x3_2 true) else ((fullerref10_Arity.f k2 ((rd_T36 l0 x3_2).f0)).bind fun t201 => (if (((rd_T36 l0 x3_2).f1).length : Int) = t201 then (fullerref10_Check.j2 k2 l0 x3_2 (!t196)) else (fullerref10_Check.j2 k2 l0 x3_2 true))))) = some r := H
        have A7 := Aside0.mk A70
        clear A70
        have HC8 := Aside0.mk H
        clear H
        have p195 : 0 ≤ (x3_2 : Int) := od_
        have q195 : x3_2 < (l0.length : Int) := od_
        obtain ⟨ad195, A195_1, c195_1, A195_2, c195_2, e195, hx195_0, hx195_1, hx195_2, hl195_1, hi195_1, hl195_2, hi195_2⟩ := at_T36 HR0.out x3_2 p195 q195
        cases e195
        replace hx195_0 := (HB.out.cell (World.block_lt_of_cell? w _ hx195_0)).trans hx195_0
        replace hx195_1 := (HB.out.cell (World.block_lt_of_cell? w _ hx195_1)).trans hx195_1
        replace hx195_2 := (HB.out.cell (World.block_lt_of_cell? w _ hx195_2)).trans hx195_2
        have HR195_1 := Aside0.mk hi195_1
        have HC195_1 := Aside0.mk hl195_1
        clear hi195_1 hl195_1
        have HR195_2 := Aside0.mk hi195_2
        have HC195_2 := Aside0.mk hl195_2
        clear hi195_2 hl195_2
        replace p195 := eq_true p195
        replace q195 := eq_true q195
        go_upto_region 7 with (first | ((with_reducible refine gate_callee (f := 35) rfl ?_); refine goesL_ (some 26) rfl rfl Try.func35 (by kernel_rfl) rfl #[.agg #[.int .i64 ((rd_T36 l0 x3_2).f0), .slice A195_1 ((rd_T36 l0 x3_2).f1).length c195_1, .slice A195_2 ((rd_T36 l0 x3_2).f2).length c195_2]] rfl (by (try simp only [List.map_toArray, List.map_cons, List.map_nil]); first | done | rfl | (simp only [List.length_drop, List.length_take]; rfl)) ?_; (with_reducible refine (fullerref10_nums.calls k2 ((rd_T36 l0 x3_2).f0) _ _ ((rd_T36 l0 x3_2).f1) _ _ ((rd_T36 l0 x3_2).f2) t196 _ ?side1 ?side2 ?side3 ?side4 A7.out).mono ?_); (case side1 => exact mvC_ ((Kd.C_below HR195_1.out HB.out))); (case side2 => exact HC195_1.out); (case side3 => exact mvC_ ((Kd.C_below HR195_2.out HB.out))); (case side4 => exact HC195_2.out); rintro e w9 ⟨rfl, hb⟩; refine ⟨_, rfl, ?_⟩; have n0_ := Aside0.mk (below_step (bq0_ HB.out) hb); clear HB; have HB := n0_; clear n0_; (try clear hb)))
        (try simp only [Act.put, sA_, sB_, sC_])
        go_cut [52] (fun v52 wc => ∃ (kq : Nat) (x52_7 : Bool), v52 = .bool x52_7 ∧ Aside0 (fullerref10_Check.j2 kq l0 x3_2 x52_7 = some r) ∧ Aside0 (kq ≤ k2) ∧ Aside0 (Below w.heap.size w wc))
        case first =>
         have H := HC8.out
         clear HC8
         replace H := Option.bind_eq_some_iff.mp H
         obtain ⟨t198, A100, H⟩ := H
         replace H : (if t198 < 0 then (fullerref10_Check.j2 k2 l0 x3_2 true) else ((fullerref10_Arity.f k2 ((rd_T36 l0 x3_2).f0)).bind fun t201 => (if (((rd_T36 l0 x3_2).f1).length : Int) = t201 then (fullerref10_Check.j2 k2 l0 x3_2 (!t196)) else (fullerref10_Check.j2 k2 l0 x3_2 true)))) = some r := H
         have A10 := Aside0.mk A100
         clear A100
         by_cases c11 : t198 < 0
         ·rw [if_pos c11] at H
          have c11b0 : decide (t198 < 0) = true := decide_eq_true c11
          clear c11
          (first | rw [c11b0] | (simp only [i64_w, i32_w]; rw [c11b0]) | skip)
          have H' := Aside0.mk H
          clear H
          try go_wp2
          have n0_ := Aside0.mk (below_drew1 HB.out)
          clear HB
          have HB := n0_
          clear n0_
          have p197 : 0 ≤ (x3_2 : Int) := od_
          have q197 : x3_2 < (l0.length : Int) := od_
          obtain ⟨ad197, A197_1, c197_1, A197_2, c197_2, e197, hx197_0, hx197_1, hx197_2, hl197_1, hi197_1, hl197_2, hi197_2⟩ := at_T36 HR0.out x3_2 p197 q197
          have hw197_2 := hx197_2
          have hw197_1 := hx197_1
          have hw197_0 := hx197_0
          obtain rfl : ad195 = ad197 := (by injection e197)
          replace hx197_0 := (HB.out.cell (World.block_lt_of_cell? w _ hx197_0)).trans hx197_0
          replace hx197_1 := (HB.out.cell (World.block_lt_of_cell? w _ hx197_1)).trans hx197_1
          replace hx197_2 := (HB.out.cell (World.block_lt_of_cell? w _ hx197_2)).trans hx197_2
          have HR197_1 := Aside0.mk hi197_1
          have HC197_1 := Aside0.mk hl197_1
          clear hi197_1 hl197_1
          have HR197_2 := Aside0.mk hi197_2
          have HC197_2 := Aside0.mk hl197_2
          clear hi197_2 hl197_2
          replace p197 := eq_true p197
          replace q197 := eq_true q197
          refine start_ (n := 26) (S := fun w' => w'.cell? (ad195.add ((x3_2).toNat * 3)) = some (.int .i64 ((rd_T36 l0 x3_2).f0)) ∧ w'.cell? ⟨(ad195.add ((x3_2).toNat * 3)).block, (ad195.add ((x3_2).toNat * 3)).off + 1, none⟩ = some (.slice A197_1 ((rd_T36 l0 x3_2).f1).length c197_1) ∧ w'.cell? ⟨(ad195.add ((x3_2).toNat * 3)).block, (ad195.add ((x3_2).toNat * 3)).off + 2, none⟩ = some (.slice A197_2 ((rd_T36 l0 x3_2).f2).length c197_2)) (ds := []) L17_0 (by kernel_rfl) rfl rfl ⟨((HB.out.cell (World.block_lt_of_cell? w _ hw197_0)).trans hw197_0), ((HB.out.cell (World.block_lt_of_cell? w _ hw197_1)).trans hw197_1), ((HB.out.cell (World.block_lt_of_cell? w _ hw197_2)).trans hw197_2)⟩ (fun hHeld => ?_); refine with_tabW fullerref10_Check.tab7 fullerref10_Check.bits7 (fun HT_ HW_ => ?_)
          generalize w9.drew = w12 at HB HR197_1 HR197_2 hx197_0 hx197_1 hx197_2 hHeld ⊢
          refine pure_ (i := 0) (N := some 27) (v := ?_) (a' := ?_) L17_1 rfl rfl (any_of HT_.out (by kernel_rfl)) (fun _ _ _ h => h) (Or.inl ⟨by rfl, ?_⟩) ?_ ?_
          rotate_left
          ·intro w'
           go_simp
           with_reducible rfl
          rotate_left
          ·simp only [Act.put, sA_, sB_, sC_, i64_w, i32_w]
           rfl
          refine pure_ (i := 1) (N := some 28) (v := ?_) (a' := ?_) L17_2 rfl rfl (any_of HT_.out (by kernel_rfl)) (fun _ _ _ h => h) (Or.inl ⟨by rfl, ?_⟩) ?_ ?_
          rotate_left
          ·intro w'
           go_simp
           with_reducible rfl
          rotate_left
          ·simp only [Act.put, sA_, sB_, sC_, i64_w, i32_w]
           rfl
          refine pure_ (i := 2) (N := some 29) (v := ?_) (a' := ?_) L17_3 rfl rfl (any_of HT_.out (by kernel_rfl)) (fun _ _ _ h => h) (Or.inl ⟨by rfl, ?_⟩) ?_ ?_
          rotate_left
          ·intro w'
           go_simp
           with_reducible rfl
          rotate_left
          ·simp only [Act.put, sA_, sB_, sC_, i64_w, i32_w]
           rfl
          refine pure_ (i := 3) (N := some 30) (v := ?_) (a' := ?_) L17_4 rfl rfl (any_of HT_.out (by kernel_rfl)) (fun _ _ _ h => h) (Or.inl ⟨by rfl, ?_⟩) ?_ ?_
          rotate_left
          ·intro w'
           go_simp
           with_reducible rfl
          rotate_left
          ·simp only [Act.put, sA_, sB_, sC_, i64_w, i32_w]
           rfl
          refine take_ (i := 4) (N := some 31) (v := ?_) (a' := ?_) L17_5 rfl rfl (take_ofW HT_.out HW_.out (by kernel_rfl)) (fun _ _ _ h => h) (Or.inl ⟨by rfl, ?_⟩) hHeld ?_ ?_
          rotate_left
          ·rintro w' ⟨s0, s1, s2⟩
           go_simp
           with_reducible rfl
          rotate_left
          ·simp only [Act.put, sA_, sB_, sC_, i64_w, i32_w]
           rfl
          refine one_ (i := 5) (N := some 32) L17_6 rfl rfl (one_of HT_.out (by kernel_rfl)) (by decide) (fun K hK => ?_)
          refine goes_ Try.func36 (by kernel_rfl) rfl #[.int .i64 ((rd_T36 l0 x3_2).f0)] (by rfl) rfl rfl (by (try simp only [List.map_toArray, List.map_cons, List.map_nil]); first | done | rfl | (simp only [List.length_drop, List.length_take]; rfl)) ?_
          with_reducible refine (fullerref10_Arity.calls k2 ((rd_T36 l0 x3_2).f0) t198 _ A10.out).mono ?_
          rintro e w' ⟨rfl, ⟨nd, rfl⟩⟩
          refine ⟨_, rfl, ?_⟩
          refine hK.out _ _ ⟨((HB.out.cell (World.block_lt_of_cell? w _ hw197_0)).trans hw197_0), ((HB.out.cell (World.block_lt_of_cell? w _ hw197_1)).trans hw197_1), ((HB.out.cell (World.block_lt_of_cell? w _ hw197_2)).trans hw197_2)⟩ (fun hHeld => ?_)
          clear hK K
          refine norm_ (a' := ?_) ?_ ?_
          rotate_left
          ·show Act.put _ (some 32) _ = _
           simp only [Act.put, sA_, sB_, sC_, i64_w, i32_w]
           rfl
          refine pure_ (i := 6) (N := some 33) (v := ?_) (a' := ?_) L17_7 rfl rfl (any_of HT_.out (by kernel_rfl)) (fun _ _ _ h => h) (Or.inl ⟨by rfl, ?_⟩) ?_ ?_
          rotate_left
          ·intro w'
           go_simp
           with_reducible rfl
          rotate_left
          ·simp only [Act.put, sA_, sB_, sC_, i64_w, i32_w]
           rfl
          refine pure_ (i := 7) (N := some 34) (v := ?_) (a' := ?_) L17_8 rfl rfl (any_of HT_.out (by kernel_rfl)) (fun _ _ _ h => h) (Or.inl ⟨by rfl, ?_⟩) ?_ ?_
          rotate_left
          ·intro w'
           go_simp
           with_reducible rfl
          rotate_left
          ·simp only [Act.put, sA_, sB_, sC_, i64_w, i32_w]
           rfl
          refine skips_ (fuel := 5) (m := 18) HT_.out (fun _ _ _ _ _ h => h) [(8, 35), (9, 36), (10, 37), (11, 38), (12, 39), (13, 40), (14, 41), (15, 42), (16, 43), (17, 44), (18, 45), (19, 46), (20, 47)] L17_9 rfl (by kernel_rfl) (by kernel_rfl) (a' := ?_) ?_ ?_
          rotate_left
          ·simp only [putU, Act.put, sA_, sB_, sC_]
           rfl
          refine pure_ (i := 21) (N := some 48) (v := ?_) (a' := ?_) L17_10 rfl rfl (any_of HT_.out (by kernel_rfl)) (fun _ _ _ h => h) (Or.inl ⟨by rfl, ?_⟩) ?_ ?_
          rotate_left
          ·intro w'
           go_simp
           with_reducible rfl
          rotate_left
          ·simp only [Act.put, sA_, sB_, sC_, i64_w, i32_w]
           rfl
          refine pure_ (i := 22) (N := some 49) (v := ?_) (a' := ?_) L17_11 rfl rfl (any_of HT_.out (by kernel_rfl)) (fun _ _ _ h => h) (Or.inl ⟨by rfl, ?_⟩) ?_ ?_
          rotate_left
          ·intro w'
           go_simp
           with_reducible rfl
          rotate_left
          ·simp only [Act.put, sA_, sB_, sC_, i64_w, i32_w]
           rfl
          refine skips_ (fuel := 1) (m := 3) HT_.out (fun _ _ _ _ _ h => h) [(23, 50), (24, 51)] L17_12 rfl (by kernel_rfl) (by kernel_rfl) (a' := ?_) ?_ ?_
          rotate_left
          ·simp only [putU, Act.put, sA_, sB_, sC_]
           rfl
          refine pure_ (i := 25) (N := some 52) (v := ?_) (a' := ?_) L17_13 rfl rfl (any_of HT_.out (by kernel_rfl)) (fun _ _ _ h => h) (Or.inl ⟨by rfl, ?_⟩) ?_ ?_
          rotate_left
          ·intro w'
           go_simp
           with_reducible rfl
          rotate_left
          ·simp only [Act.put, sA_, sB_, sC_, i64_w, i32_w]
           rfl
          refine done_ (done_of HT_.out (by kernel_rfl)) ?_
          try go_wp2
          go_meet
          case rel => exact ⟨_, (true), (by first | rfl | (simp; done) | (simp [*]; done)), H', ⟨by have := HJ1.out; have := HK2.out; first | omega | exact Nat.le_refl _⟩, ⟨by repeat (first | (with_reducible first | exact HB.out | apply below_alloc | apply pw_below_drewN | apply below_drew1) | exact HB.out)⟩⟩
         ·rw [if_neg c11] at H
          have c11b0 : decide (t198 < 0) = false := decide_eq_false c11
          clear c11
          (first | rw [c11b0] | (simp only [i64_w, i32_w]; rw [c11b0]) | skip)
          replace H := Option.bind_eq_some_iff.mp H
          obtain ⟨t201, A130, H⟩ := H
          replace H : (if (((rd_T36 l0 x3_2).f1).length : Int) = t201 then (fullerref10_Check.j2 k2 l0 x3_2 (!t196)) else (fullerref10_Check.j2 k2 l0 x3_2 true)) = some r := H
          have A13 := Aside0.mk A130
          clear A130
          by_cases c14 : (((rd_T36 l0 x3_2).f1).length : Int) = t201
          ·rw [if_pos c14] at H
           have c14b0 : ((((rd_T36 l0 x3_2).f1).length : Int) == t201) = true := beq_iff_eq.mpr c14
           have c14b1 : ((((rd_T36 l0 x3_2).f1).length : Int) != t201) = false := bne_eq_false_iff_eq.mpr c14
           clear c14
           have H' := Aside0.mk H
           clear H
           try go_wp2
           have n0_ := Aside0.mk (below_drew1 HB.out)
           clear HB
           have HB := n0_
           clear n0_
           have p197 : 0 ≤ (x3_2 : Int) := od_
           have q197 : x3_2 < (l0.length : Int) := od_
           obtain ⟨ad197, A197_1, c197_1, A197_2, c197_2, e197, hx197_0, hx197_1, hx197_2, hl197_1, hi197_1, hl197_2, hi197_2⟩ := at_T36 HR0.out x3_2 p197 q197
           have hw197_2 := hx197_2
           have hw197_1 := hx197_1
           have hw197_0 := hx197_0
           obtain rfl : ad195 = ad197 := (by injection e197)
           replace hx197_0 := (HB.out.cell (World.block_lt_of_cell? w _ hx197_0)).trans hx197_0
           replace hx197_1 := (HB.out.cell (World.block_lt_of_cell? w _ hx197_1)).trans hx197_1
           replace hx197_2 := (HB.out.cell (World.block_lt_of_cell? w _ hx197_2)).trans hx197_2
           have HR197_1 := Aside0.mk hi197_1
           have HC197_1 := Aside0.mk hl197_1
           clear hi197_1 hl197_1
           have HR197_2 := Aside0.mk hi197_2
           have HC197_2 := Aside0.mk hl197_2
           clear hi197_2 hl197_2
           replace p197 := eq_true p197
           replace q197 := eq_true q197
           have p199 : 0 ≤ (x3_2 : Int) := od_
           have q199 : x3_2 < (l0.length : Int) := od_
           obtain ⟨ad199, A199_1, c199_1, A199_2, c199_2, e199, hx199_0, hx199_1, hx199_2, hl199_1, hi199_1, hl199_2, hi199_2⟩ := at_T36 HR0.out x3_2 p199 q199
           have hw199_2 := hx199_2
           have hw199_1 := hx199_1
           have hw199_0 := hx199_0
           obtain rfl : ad195 = ad199 := (by injection e199)
           replace hx199_0 := (HB.out.cell (World.block_lt_of_cell? w _ hx199_0)).trans hx199_0
           replace hx199_1 := (HB.out.cell (World.block_lt_of_cell? w _ hx199_1)).trans hx199_1
           replace hx199_2 := (HB.out.cell (World.block_lt_of_cell? w _ hx199_2)).trans hx199_2
           have HR199_1 := Aside0.mk hi199_1
           have HC199_1 := Aside0.mk hl199_1
           clear hi199_1 hl199_1
           have HR199_2 := Aside0.mk hi199_2
           have HC199_2 := Aside0.mk hl199_2
           clear hi199_2 hl199_2
           replace p199 := eq_true p199
           replace q199 := eq_true q199
           have ea_ := Option.some.inj (hx197_1.symm.trans hx199_1)
           injection ea_ with ea_ en_ ec_
           subst ea_
           subst ec_
           clear en_
           have ea_ := Option.some.inj (hx197_2.symm.trans hx199_2)
           injection ea_ with ea_ en_ ec_
           subst ea_
           subst ec_
           clear en_
           have p200 : 0 ≤ (x3_2 : Int) := od_
           have q200 : x3_2 < (l0.length : Int) := od_
           obtain ⟨ad200, A200_1, c200_1, A200_2, c200_2, e200, hx200_0, hx200_1, hx200_2, hl200_1, hi200_1, hl200_2, hi200_2⟩ := at_T36 HR0.out x3_2 p200 q200
           have hw200_2 := hx200_2
           have hw200_1 := hx200_1
           have hw200_0 := hx200_0
           obtain rfl : ad195 = ad200 := (by injection e200)
           replace hx200_0 := (HB.out.cell (World.block_lt_of_cell? w _ hx200_0)).trans hx200_0
           replace hx200_1 := (HB.out.cell (World.block_lt_of_cell? w _ hx200_1)).trans hx200_1
           replace hx200_2 := (HB.out.cell (World.block_lt_of_cell? w _ hx200_2)).trans hx200_2
           have HR200_1 := Aside0.mk hi200_1
           have HC200_1 := Aside0.mk hl200_1
           clear hi200_1 hl200_1
           have HR200_2 := Aside0.mk hi200_2
           have HC200_2 := Aside0.mk hl200_2
           clear hi200_2 hl200_2
           replace p200 := eq_true p200
           replace q200 := eq_true q200
           have ea_ := Option.some.inj (hx197_1.symm.trans hx200_1)
           injection ea_ with ea_ en_ ec_
           subst ea_
           subst ec_
           clear en_
           have ea_ := Option.some.inj (hx197_2.symm.trans hx200_2)
           injection ea_ with ea_ en_ ec_
           subst ea_
           subst ec_
           clear en_
           refine start_ (n := 26) (S := fun w' => w'.cell? (ad195.add ((x3_2).toNat * 3)) = some (.int .i64 ((rd_T36 l0 x3_2).f0)) ∧ w'.cell? ⟨(ad195.add ((x3_2).toNat * 3)).block, (ad195.add ((x3_2).toNat * 3)).off + 1, none⟩ = some (.slice A197_1 ((rd_T36 l0 x3_2).f1).length c197_1) ∧ w'.cell? ⟨(ad195.add ((x3_2).toNat * 3)).block, (ad195.add ((x3_2).toNat * 3)).off + 2, none⟩ = some (.slice A197_2 ((rd_T36 l0 x3_2).f2).length c197_2) ∧ w'.cell? (ad195.add ((x3_2).toNat * 3)) = some (.int .i64 ((rd_T36 l0 x3_2).f0)) ∧ w'.cell? ⟨(ad195.add ((x3_2).toNat * 3)).block, (ad195.add ((x3_2).toNat * 3)).off + 1, none⟩ = some (.slice A197_1 ((rd_T36 l0 x3_2).f1).length c197_1) ∧ w'.cell? ⟨(ad195.add ((x3_2).toNat * 3)).block, (ad195.add ((x3_2).toNat * 3)).off + 2, none⟩ = some (.slice A197_2 ((rd_T36 l0 x3_2).f2).length c197_2) ∧ w'.cell? (ad195.add ((x3_2).toNat * 3)) = some (.int .i64 ((rd_T36 l0 x3_2).f0)) ∧ w'.cell? ⟨(ad195.add ((x3_2).toNat * 3)).block, (ad195.add ((x3_2).toNat * 3)).off + 1, none⟩ = some (.slice A197_1 ((rd_T36 l0 x3_2).f1).length c197_1) ∧ w'.cell? ⟨(ad195.add ((x3_2).toNat * 3)).block, (ad195.add ((x3_2).toNat * 3)).off + 2, none⟩ = some (.slice A197_2 ((rd_T36 l0 x3_2).f2).length c197_2)) (ds := []) L17_0 (by kernel_rfl) rfl rfl ⟨((HB.out.cell (World.block_lt_of_cell? w _ hw197_0)).trans hw197_0), ((HB.out.cell (World.block_lt_of_cell? w _ hw197_1)).trans hw197_1), ((HB.out.cell (World.block_lt_of_cell? w _ hw197_2)).trans hw197_2), ((HB.out.cell (World.block_lt_of_cell? w _ hw199_0)).trans hw199_0), ((HB.out.cell (World.block_lt_of_cell? w _ hw199_1)).trans hw199_1), ((HB.out.cell (World.block_lt_of_cell? w _ hw199_2)).trans hw199_2), ((HB.out.cell (World.block_lt_of_cell? w _ hw200_0)).trans hw200_0), ((HB.out.cell (World.block_lt_of_cell? w _ hw200_1)).trans hw200_1), ((HB.out.cell (World.block_lt_of_cell? w _ hw200_2)).trans hw200_2)⟩ (fun hHeld => ?_); refine with_tabW fullerref10_Check.tab7 fullerref10_Check.bits7 (fun HT_ HW_ => ?_)
           generalize w9.drew = w15 at HB HR197_1 HR197_2 HR199_1 HR199_2 HR200_1 HR200_2 hx197_0 hx197_1 hx197_2 hx199_0 hx199_1 hx199_2 hx200_0 hx200_1 hx200_2 hHeld ⊢
           refine pure_ (i := 0) (N := some 27) (v := ?_) (a' := ?_) L17_1 rfl rfl (any_of HT_.out (by kernel_rfl)) (fun _ _ _ h => h) (Or.inl ⟨by rfl, ?_⟩) ?_ ?_
           rotate_left
           ·intro w'
            go_simp
            with_reducible rfl
           rotate_left
           ·simp only [Act.put, sA_, sB_, sC_, i64_w, i32_w]
            rfl
           refine pure_ (i := 1) (N := some 28) (v := ?_) (a' := ?_) L17_2 rfl rfl (any_of HT_.out (by kernel_rfl)) (fun _ _ _ h => h) (Or.inl ⟨by rfl, ?_⟩) ?_ ?_
           rotate_left
           ·intro w'
            go_simp
            with_reducible rfl
           rotate_left
           ·simp only [Act.put, sA_, sB_, sC_, i64_w, i32_w]
            rfl
           refine pure_ (i := 2) (N := some 29) (v := ?_) (a' := ?_) L17_3 rfl rfl (any_of HT_.out (by kernel_rfl)) (fun _ _ _ h => h) (Or.inl ⟨by rfl, ?_⟩) ?_ ?_
           rotate_left
           ·intro w'
            go_simp
            with_reducible rfl
           rotate_left
           ·simp only [Act.put, sA_, sB_, sC_, i64_w, i32_w]
            rfl
           refine pure_ (i := 3) (N := some 30) (v := ?_) (a' := ?_) L17_4 rfl rfl (any_of HT_.out (by kernel_rfl)) (fun _ _ _ h => h) (Or.inl ⟨by rfl, ?_⟩) ?_ ?_
           rotate_left
           ·intro w'
            go_simp
            with_reducible rfl
           rotate_left
           ·simp only [Act.put, sA_, sB_, sC_, i64_w, i32_w]
            rfl
           refine take_ (i := 4) (N := some 31) (v := ?_) (a' := ?_) L17_5 rfl rfl (take_ofW HT_.out HW_.out (by kernel_rfl)) (fun _ _ _ h => h) (Or.inl ⟨by rfl, ?_⟩) hHeld ?_ ?_
           rotate_left
           ·rintro w' ⟨s0, s1, s2, s3, s4, s5, s6, s7, s8⟩
            go_simp
            with_reducible rfl
           rotate_left
           ·simp only [Act.put, sA_, sB_, sC_, i64_w, i32_w]
            rfl
           refine one_ (i := 5) (N := some 32) L17_6 rfl rfl (one_of HT_.out (by kernel_rfl)) (by decide) (fun K hK => ?_)
           refine goes_ Try.func36 (by kernel_rfl) rfl #[.int .i64 ((rd_T36 l0 x3_2).f0)] (by rfl) rfl rfl (by (try simp only [List.map_toArray, List.map_cons, List.map_nil]); first | done | rfl | (simp only [List.length_drop, List.length_take]; rfl)) ?_
           with_reducible refine (fullerref10_Arity.calls k2 ((rd_T36 l0 x3_2).f0) t198 _ A10.out).mono ?_
           rintro e w' ⟨rfl, ⟨nd, rfl⟩⟩
           refine ⟨_, rfl, ?_⟩
           refine hK.out _ _ ⟨((HB.out.cell (World.block_lt_of_cell? w _ hw197_0)).trans hw197_0), ((HB.out.cell (World.block_lt_of_cell? w _ hw197_1)).trans hw197_1), ((HB.out.cell (World.block_lt_of_cell? w _ hw197_2)).trans hw197_2), ((HB.out.cell (World.block_lt_of_cell? w _ hw199_0)).trans hw199_0), ((HB.out.cell (World.block_lt_of_cell? w _ hw199_1)).trans hw199_1), ((HB.out.cell (World.block_lt_of_cell? w _ hw199_2)).trans hw199_2), ((HB.out.cell (World.block_lt_of_cell? w _ hw200_0)).trans hw200_0), ((HB.out.cell (World.block_lt_of_cell? w _ hw200_1)).trans hw200_1), ((HB.out.cell (World.block_lt_of_cell? w _ hw200_2)).trans hw200_2)⟩ (fun hHeld => ?_)
           clear hK K
           refine norm_ (a' := ?_) ?_ ?_
           rotate_left
           ·show Act.put _ (some 32) _ = _
            simp only [Act.put, sA_, sB_, sC_, i64_w, i32_w]
            rfl
           refine pure_ (i := 6) (N := some 33) (v := ?_) (a' := ?_) L17_7 rfl rfl (any_of HT_.out (by kernel_rfl)) (fun _ _ _ h => h) (Or.inl ⟨by rfl, ?_⟩) ?_ ?_
           rotate_left
           ·intro w'
            go_simp
            with_reducible rfl
           rotate_left
           ·simp only [Act.put, sA_, sB_, sC_, i64_w, i32_w]
            rfl
           refine pure_ (i := 7) (N := some 34) (v := ?_) (a' := ?_) L17_8 rfl rfl (any_of HT_.out (by kernel_rfl)) (fun _ _ _ h => h) (Or.inl ⟨by rfl, ?_⟩) ?_ ?_
           rotate_left
           ·intro w'
            go_simp
            with_reducible rfl
           rotate_left
           ·simp only [Act.put, sA_, sB_, sC_, i64_w, i32_w]
            rfl
           refine pure_ (i := 8) (N := some 35) (v := ?_) (a' := ?_) L17_14 rfl rfl (any_of HT_.out (by kernel_rfl)) (fun _ _ _ h => h) (Or.inl ⟨by rfl, ?_⟩) ?_ ?_
           rotate_left
           ·intro w'
            go_simp
            with_reducible rfl
           rotate_left
           ·simp only [Act.put, sA_, sB_, sC_, i64_w, i32_w]
            rfl
           refine pure_ (i := 9) (N := some 36) (v := ?_) (a' := ?_) L17_15 rfl rfl (any_of HT_.out (by kernel_rfl)) (fun _ _ _ h => h) (Or.inl ⟨by rfl, ?_⟩) ?_ ?_
           rotate_left
           ·intro w'
            go_simp
            with_reducible rfl
           rotate_left
           ·simp only [Act.put, sA_, sB_, sC_, i64_w, i32_w]
            rfl
           refine pure_ (i := 10) (N := some 37) (v := ?_) (a' := ?_) L17_16 rfl rfl (any_of HT_.out (by kernel_rfl)) (fun _ _ _ h => h) (Or.inl ⟨by rfl, ?_⟩) ?_ ?_
           rotate_left
           ·intro w'
            go_simp
            with_reducible rfl
           rotate_left
           ·simp only [Act.put, sA_, sB_, sC_, i64_w, i32_w]
            rfl
           refine pure_ (i := 11) (N := some 38) (v := ?_) (a' := ?_) L17_17 rfl rfl (any_of HT_.out (by kernel_rfl)) (fun _ _ _ h => h) (Or.inl ⟨by rfl, ?_⟩) ?_ ?_
           rotate_left
           ·intro w'
            go_simp
            with_reducible rfl
           rotate_left
           ·simp only [Act.put, sA_, sB_, sC_, i64_w, i32_w]
            rfl
           refine pure_ (i := 14) (N := some 41) (v := ?_) (a' := ?_) L17_18 rfl rfl (any_of HT_.out (by kernel_rfl)) (fun _ _ _ h => h) (Or.inl ⟨by rfl, ?_⟩) ?_ ?_
           rotate_left
           ·intro w'
            go_simp
            with_reducible rfl
           rotate_left
           ·simp only [Act.put, sA_, sB_, sC_, i64_w, i32_w]
            rfl
           refine pure_ (i := 15) (N := some 42) (v := ?_) (a' := ?_) L17_19 rfl rfl (any_of HT_.out (by kernel_rfl)) (fun _ _ _ h => h) (Or.inl ⟨by rfl, ?_⟩) ?_ ?_
           rotate_left
           ·intro w'
            go_simp
            with_reducible rfl
           rotate_left
           ·simp only [Act.put, sA_, sB_, sC_, i64_w, i32_w]
            rfl
           refine pure_ (i := 16) (N := some 43) (v := ?_) (a' := ?_) L17_20 rfl rfl (any_of HT_.out (by kernel_rfl)) (fun _ _ _ h => h) (Or.inl ⟨by rfl, ?_⟩) ?_ ?_
           rotate_left
           ·intro w'
            go_simp
            with_reducible rfl
           rotate_left
           ·simp only [Act.put, sA_, sB_, sC_, i64_w, i32_w]
            rfl
           refine pure_ (i := 17) (N := some 44) (v := ?_) (a' := ?_) L17_21 rfl rfl (any_of HT_.out (by kernel_rfl)) (fun _ _ _ h => h) (Or.inl ⟨by rfl, ?_⟩) ?_ ?_
           rotate_left
           ·intro w'
            go_simp
            with_reducible rfl
           rotate_left
           ·simp only [Act.put, sA_, sB_, sC_, i64_w, i32_w]
            rfl
           refine take_ (i := 12) (N := some 39) (v := ?_) (a' := ?_) L17_22 rfl rfl (take_ofW HT_.out HW_.out (by kernel_rfl)) (fun _ _ _ h => h) (Or.inl ⟨by rfl, ?_⟩) hHeld ?_ ?_
           rotate_left
           ·rintro w' ⟨s0, s1, s2, s3, s4, s5, s6, s7, s8⟩
            go_simp
            with_reducible rfl
           rotate_left
           ·simp only [Act.put, sA_, sB_, sC_, i64_w, i32_w]
            rfl
           refine pure_ (i := 13) (N := some 40) (v := ?_) (a' := ?_) L17_23 rfl rfl (any_of HT_.out (by kernel_rfl)) (fun _ _ _ h => h) (Or.inl ⟨by rfl, ?_⟩) ?_ ?_
           rotate_left
           ·intro w'
            go_simp
            with_reducible rfl
           rotate_left
           ·simp only [Act.put, sA_, sB_, sC_, i64_w, i32_w]
            rfl
           refine take_ (i := 18) (N := some 45) (v := ?_) (a' := ?_) L17_24 rfl rfl (take_ofW HT_.out HW_.out (by kernel_rfl)) (fun _ _ _ h => h) (Or.inl ⟨by rfl, ?_⟩) hHeld ?_ ?_
           rotate_left
           ·rintro w' ⟨s0, s1, s2, s3, s4, s5, s6, s7, s8⟩
            go_simp
            with_reducible rfl
           rotate_left
           ·simp only [Act.put, sA_, sB_, sC_, i64_w, i32_w]
            rfl
           refine one_ (i := 19) (N := some 46) L17_25 rfl rfl (one_of HT_.out (by kernel_rfl)) (by decide) (fun K hK => ?_)
           refine goes_ Try.func36 (by kernel_rfl) rfl #[.int .i64 ((rd_T36 l0 x3_2).f0)] (by rfl) rfl rfl (by (try simp only [List.map_toArray, List.map_cons, List.map_nil]); first | done | rfl | (simp only [List.length_drop, List.length_take]; rfl)) ?_
           with_reducible refine (fullerref10_Arity.calls k2 ((rd_T36 l0 x3_2).f0) t201 _ A13.out).mono ?_
           rintro e w' ⟨rfl, ⟨nd, rfl⟩⟩
           refine ⟨_, rfl, ?_⟩
           refine hK.out _ _ ⟨((HB.out.cell (World.block_lt_of_cell? w _ hw197_0)).trans hw197_0), ((HB.out.cell (World.block_lt_of_cell? w _ hw197_1)).trans hw197_1), ((HB.out.cell (World.block_lt_of_cell? w _ hw197_2)).trans hw197_2), ((HB.out.cell (World.block_lt_of_cell? w _ hw199_0)).trans hw199_0), ((HB.out.cell (World.block_lt_of_cell? w _ hw199_1)).trans hw199_1), ((HB.out.cell (World.block_lt_of_cell? w _ hw199_2)).trans hw199_2), ((HB.out.cell (World.block_lt_of_cell? w _ hw200_0)).trans hw200_0), ((HB.out.cell (World.block_lt_of_cell? w _ hw200_1)).trans hw200_1), ((HB.out.cell (World.block_lt_of_cell? w _ hw200_2)).trans hw200_2)⟩ (fun hHeld => ?_)
           clear hK K
           refine norm_ (a' := ?_) ?_ ?_
           rotate_left
           ·show Act.put _ (some 46) _ = _
            simp only [Act.put, sA_, sB_, sC_, i64_w, i32_w]
            rfl
           refine pure_ (i := 20) (N := some 47) (v := ?_) (a' := ?_) L17_9 rfl rfl (any_of HT_.out (by kernel_rfl)) (fun _ _ _ h => h) (Or.inl ⟨by rfl, ?_⟩) ?_ ?_
           rotate_left
           ·intro w'
            go_simp
            with_reducible rfl
           rotate_left
           ·simp only [Act.put, sA_, sB_, sC_, i64_w, i32_w]
            rfl
           refine pure_ (i := 21) (N := some 48) (v := ?_) (a' := ?_) L17_10 rfl rfl (any_of HT_.out (by kernel_rfl)) (fun _ _ _ h => h) (Or.inl ⟨by rfl, ?_⟩) ?_ ?_
           rotate_left
           ·intro w'
            go_simp
            with_reducible rfl
           rotate_left
           ·simp only [Act.put, sA_, sB_, sC_, i64_w, i32_w]
            rfl
           refine pure_ (i := 22) (N := some 49) (v := ?_) (a' := ?_) L17_11 rfl rfl (any_of HT_.out (by kernel_rfl)) (fun _ _ _ h => h) (Or.inl ⟨by rfl, ?_⟩) ?_ ?_
           rotate_left
           ·intro w'
            go_simp
            with_reducible rfl
           rotate_left
           ·simp only [Act.put, sA_, sB_, sC_, i64_w, i32_w]
            rfl
           refine pure_ (i := 23) (N := some 50) (v := ?_) (a' := ?_) L17_26 rfl rfl (any_of HT_.out (by kernel_rfl)) (fun _ _ _ h => h) (Or.inl ⟨by rfl, ?_⟩) ?_ ?_
           rotate_left
           ·intro w'
            go_simp
            with_reducible rfl
           rotate_left
           ·simp only [Act.put, sA_, sB_, sC_, i64_w, i32_w]
            rfl
           refine pure_ (i := 24) (N := some 51) (v := ?_) (a' := ?_) L17_12 rfl rfl (any_of HT_.out (by kernel_rfl)) (fun _ _ _ h => h) (Or.inl ⟨by rfl, ?_⟩) ?_ ?_
           rotate_left
           ·intro w'
            go_simp
            with_reducible rfl
           rotate_left
           ·simp only [Act.put, sA_, sB_, sC_, i64_w, i32_w]
            rfl
           refine pure_ (i := 25) (N := some 52) (v := ?_) (a' := ?_) L17_13 rfl rfl (any_of HT_.out (by kernel_rfl)) (fun _ _ _ h => h) (Or.inl ⟨by rfl, ?_⟩) ?_ ?_
           rotate_left
           ·intro w'
            go_simp
            with_reducible rfl
           rotate_left
           ·simp only [Act.put, sA_, sB_, sC_, i64_w, i32_w]
            rfl
           refine done_ (done_of HT_.out (by kernel_rfl)) ?_
           try go_wp2
           go_meet
           case rel => exact ⟨_, (!t196), (by first | rfl | (simp; done) | (simp [*]; done)), H', ⟨by have := HJ1.out; have := HK2.out; first | omega | exact Nat.le_refl _⟩, ⟨by repeat (first | (with_reducible first | exact HB.out | apply below_alloc | apply pw_below_drewN | apply below_drew1) | exact HB.out)⟩⟩
          ·rw [if_neg c14] at H
           have c14b0 : ((((rd_T36 l0 x3_2).f1).length : Int) == t201) = false := beq_eq_false_iff_ne.mpr c14
           have c14b1 : ((((rd_T36 l0 x3_2).f1).length : Int) != t201) = true := bne_iff_ne.mpr c14
           have H' := Aside0.mk H
           clear H
           try go_wp2
           have n0_ := Aside0.mk (below_drew1 HB.out)
           clear HB
           have HB := n0_
           clear n0_
           have p197 : 0 ≤ (x3_2 : Int) := od_
           have q197 : x3_2 < (l0.length : Int) := od_
           obtain ⟨ad197, A197_1, c197_1, A197_2, c197_2, e197, hx197_0, hx197_1, hx197_2, hl197_1, hi197_1, hl197_2, hi197_2⟩ := at_T36 HR0.out x3_2 p197 q197
           have hw197_2 := hx197_2
           have hw197_1 := hx197_1
           have hw197_0 := hx197_0
           obtain rfl : ad195 = ad197 := (by injection e197)
           replace hx197_0 := (HB.out.cell (World.block_lt_of_cell? w _ hx197_0)).trans hx197_0
           replace hx197_1 := (HB.out.cell (World.block_lt_of_cell? w _ hx197_1)).trans hx197_1
           replace hx197_2 := (HB.out.cell (World.block_lt_of_cell? w _ hx197_2)).trans hx197_2
           have HR197_1 := Aside0.mk hi197_1
           have HC197_1 := Aside0.mk hl197_1
           clear hi197_1 hl197_1
           have HR197_2 := Aside0.mk hi197_2
           have HC197_2 := Aside0.mk hl197_2
           clear hi197_2 hl197_2
           replace p197 := eq_true p197
           replace q197 := eq_true q197
           have p199 : 0 ≤ (x3_2 : Int) := od_
           have q199 : x3_2 < (l0.length : Int) := od_
           obtain ⟨ad199, A199_1, c199_1, A199_2, c199_2, e199, hx199_0, hx199_1, hx199_2, hl199_1, hi199_1, hl199_2, hi199_2⟩ := at_T36 HR0.out x3_2 p199 q199
           have hw199_2 := hx199_2
           have hw199_1 := hx199_1
           have hw199_0 := hx199_0
           obtain rfl : ad195 = ad199 := (by injection e199)
           replace hx199_0 := (HB.out.cell (World.block_lt_of_cell? w _ hx199_0)).trans hx199_0
           replace hx199_1 := (HB.out.cell (World.block_lt_of_cell? w _ hx199_1)).trans hx199_1
           replace hx199_2 := (HB.out.cell (World.block_lt_of_cell? w _ hx199_2)).trans hx199_2
           have HR199_1 := Aside0.mk hi199_1
           have HC199_1 := Aside0.mk hl199_1
           clear hi199_1 hl199_1
           have HR199_2 := Aside0.mk hi199_2
           have HC199_2 := Aside0.mk hl199_2
           clear hi199_2 hl199_2
           replace p199 := eq_true p199
           replace q199 := eq_true q199
           have ea_ := Option.some.inj (hx197_1.symm.trans hx199_1)
           injection ea_ with ea_ en_ ec_
           subst ea_
           subst ec_
           clear en_
           have ea_ := Option.some.inj (hx197_2.symm.trans hx199_2)
           injection ea_ with ea_ en_ ec_
           subst ea_
           subst ec_
           clear en_
           have p200 : 0 ≤ (x3_2 : Int) := od_
           have q200 : x3_2 < (l0.length : Int) := od_
           obtain ⟨ad200, A200_1, c200_1, A200_2, c200_2, e200, hx200_0, hx200_1, hx200_2, hl200_1, hi200_1, hl200_2, hi200_2⟩ := at_T36 HR0.out x3_2 p200 q200
           have hw200_2 := hx200_2
           have hw200_1 := hx200_1
           have hw200_0 := hx200_0
           obtain rfl : ad195 = ad200 := (by injection e200)
           replace hx200_0 := (HB.out.cell (World.block_lt_of_cell? w _ hx200_0)).trans hx200_0
           replace hx200_1 := (HB.out.cell (World.block_lt_of_cell? w _ hx200_1)).trans hx200_1
           replace hx200_2 := (HB.out.cell (World.block_lt_of_cell? w _ hx200_2)).trans hx200_2
           have HR200_1 := Aside0.mk hi200_1
           have HC200_1 := Aside0.mk hl200_1
           clear hi200_1 hl200_1
           have HR200_2 := Aside0.mk hi200_2
           have HC200_2 := Aside0.mk hl200_2
           clear hi200_2 hl200_2
           replace p200 := eq_true p200
           replace q200 := eq_true q200
           have ea_ := Option.some.inj (hx197_1.symm.trans hx200_1)
           injection ea_ with ea_ en_ ec_
           subst ea_
           subst ec_
           clear en_
           have ea_ := Option.some.inj (hx197_2.symm.trans hx200_2)
           injection ea_ with ea_ en_ ec_
           subst ea_
           subst ec_
           clear en_
           refine start_ (n := 26) (S := fun w' => w'.cell? (ad195.add ((x3_2).toNat * 3)) = some (.int .i64 ((rd_T36 l0 x3_2).f0)) ∧ w'.cell? ⟨(ad195.add ((x3_2).toNat * 3)).block, (ad195.add ((x3_2).toNat * 3)).off + 1, none⟩ = some (.slice A197_1 ((rd_T36 l0 x3_2).f1).length c197_1) ∧ w'.cell? ⟨(ad195.add ((x3_2).toNat * 3)).block, (ad195.add ((x3_2).toNat * 3)).off + 2, none⟩ = some (.slice A197_2 ((rd_T36 l0 x3_2).f2).length c197_2) ∧ w'.cell? (ad195.add ((x3_2).toNat * 3)) = some (.int .i64 ((rd_T36 l0 x3_2).f0)) ∧ w'.cell? ⟨(ad195.add ((x3_2).toNat * 3)).block, (ad195.add ((x3_2).toNat * 3)).off + 1, none⟩ = some (.slice A197_1 ((rd_T36 l0 x3_2).f1).length c197_1) ∧ w'.cell? ⟨(ad195.add ((x3_2).toNat * 3)).block, (ad195.add ((x3_2).toNat * 3)).off + 2, none⟩ = some (.slice A197_2 ((rd_T36 l0 x3_2).f2).length c197_2) ∧ w'.cell? (ad195.add ((x3_2).toNat * 3)) = some (.int .i64 ((rd_T36 l0 x3_2).f0)) ∧ w'.cell? ⟨(ad195.add ((x3_2).toNat * 3)).block, (ad195.add ((x3_2).toNat * 3)).off + 1, none⟩ = some (.slice A197_1 ((rd_T36 l0 x3_2).f1).length c197_1) ∧ w'.cell? ⟨(ad195.add ((x3_2).toNat * 3)).block, (ad195.add ((x3_2).toNat * 3)).off + 2, none⟩ = some (.slice A197_2 ((rd_T36 l0 x3_2).f2).length c197_2)) (ds := []) L17_0 (by kernel_rfl) rfl rfl ⟨((HB.out.cell (World.block_lt_of_cell? w _ hw197_0)).trans hw197_0), ((HB.out.cell (World.block_lt_of_cell? w _ hw197_1)).trans hw197_1), ((HB.out.cell (World.block_lt_of_cell? w _ hw197_2)).trans hw197_2), ((HB.out.cell (World.block_lt_of_cell? w _ hw199_0)).trans hw199_0), ((HB.out.cell (World.block_lt_of_cell? w _ hw199_1)).trans hw199_1), ((HB.out.cell (World.block_lt_of_cell? w _ hw199_2)).trans hw199_2), ((HB.out.cell (World.block_lt_of_cell? w _ hw200_0)).trans hw200_0), ((HB.out.cell (World.block_lt_of_cell? w _ hw200_1)).trans hw200_1), ((HB.out.cell (World.block_lt_of_cell? w _ hw200_2)).trans hw200_2)⟩ (fun hHeld => ?_); refine with_tabW fullerref10_Check.tab7 fullerref10_Check.bits7 (fun HT_ HW_ => ?_)
           generalize w9.drew = w16 at HB HR197_1 HR197_2 HR199_1 HR199_2 HR200_1 HR200_2 hx197_0 hx197_1 hx197_2 hx199_0 hx199_1 hx199_2 hx200_0 hx200_1 hx200_2 hHeld ⊢
           refine pure_ (i := 0) (N := some 27) (v := ?_) (a' := ?_) L17_1 rfl rfl (any_of HT_.out (by kernel_rfl)) (fun _ _ _ h => h) (Or.inl ⟨by rfl, ?_⟩) ?_ ?_
           rotate_left
           ·intro w'
            go_simp
            with_reducible rfl
           rotate_left
           ·simp only [Act.put, sA_, sB_, sC_, i64_w, i32_w]
            rfl
           refine pure_ (i := 1) (N := some 28) (v := ?_) (a' := ?_) L17_2 rfl rfl (any_of HT_.out (by kernel_rfl)) (fun _ _ _ h => h) (Or.inl ⟨by rfl, ?_⟩) ?_ ?_
           rotate_left
           ·intro w'
            go_simp
            with_reducible rfl
           rotate_left
           ·simp only [Act.put, sA_, sB_, sC_, i64_w, i32_w]
            rfl
           refine pure_ (i := 2) (N := some 29) (v := ?_) (a' := ?_) L17_3 rfl rfl (any_of HT_.out (by kernel_rfl)) (fun _ _ _ h => h) (Or.inl ⟨by rfl, ?_⟩) ?_ ?_
           rotate_left
           ·intro w'
            go_simp
            with_reducible rfl
           rotate_left
           ·simp only [Act.put, sA_, sB_, sC_, i64_w, i32_w]
            rfl
           refine pure_ (i := 3) (N := some 30) (v := ?_) (a' := ?_) L17_4 rfl rfl (any_of HT_.out (by kernel_rfl)) (fun _ _ _ h => h) (Or.inl ⟨by rfl, ?_⟩) ?_ ?_
           rotate_left
           ·intro w'
            go_simp
            with_reducible rfl
           rotate_left
           ·simp only [Act.put, sA_, sB_, sC_, i64_w, i32_w]
            rfl
           refine take_ (i := 4) (N := some 31) (v := ?_) (a' := ?_) L17_5 rfl rfl (take_ofW HT_.out HW_.out (by kernel_rfl)) (fun _ _ _ h => h) (Or.inl ⟨by rfl, ?_⟩) hHeld ?_ ?_
           rotate_left
           ·rintro w' ⟨s0, s1, s2, s3, s4, s5, s6, s7, s8⟩
            go_simp
            with_reducible rfl
           rotate_left
           ·simp only [Act.put, sA_, sB_, sC_, i64_w, i32_w]
            rfl
           refine one_ (i := 5) (N := some 32) L17_6 rfl rfl (one_of HT_.out (by kernel_rfl)) (by decide) (fun K hK => ?_)
           refine goes_ Try.func36 (by kernel_rfl) rfl #[.int .i64 ((rd_T36 l0 x3_2).f0)] (by rfl) rfl rfl (by (try simp only [List.map_toArray, List.map_cons, List.map_nil]); first | done | rfl | (simp only [List.length_drop, List.length_take]; rfl)) ?_
           with_reducible refine (fullerref10_Arity.calls k2 ((rd_T36 l0 x3_2).f0) t198 _ A10.out).mono ?_
           rintro e w' ⟨rfl, ⟨nd, rfl⟩⟩
           refine ⟨_, rfl, ?_⟩
           refine hK.out _ _ ⟨((HB.out.cell (World.block_lt_of_cell? w _ hw197_0)).trans hw197_0), ((HB.out.cell (World.block_lt_of_cell? w _ hw197_1)).trans hw197_1), ((HB.out.cell (World.block_lt_of_cell? w _ hw197_2)).trans hw197_2), ((HB.out.cell (World.block_lt_of_cell? w _ hw199_0)).trans hw199_0), ((HB.out.cell (World.block_lt_of_cell? w _ hw199_1)).trans hw199_1), ((HB.out.cell (World.block_lt_of_cell? w _ hw199_2)).trans hw199_2), ((HB.out.cell (World.block_lt_of_cell? w _ hw200_0)).trans hw200_0), ((HB.out.cell (World.block_lt_of_cell? w _ hw200_1)).trans hw200_1), ((HB.out.cell (World.block_lt_of_cell? w _ hw200_2)).trans hw200_2)⟩ (fun hHeld => ?_)
           clear hK K
           refine norm_ (a' := ?_) ?_ ?_
           rotate_left
           ·show Act.put _ (some 32) _ = _
            simp only [Act.put, sA_, sB_, sC_, i64_w, i32_w]
            rfl
           refine pure_ (i := 6) (N := some 33) (v := ?_) (a' := ?_) L17_7 rfl rfl (any_of HT_.out (by kernel_rfl)) (fun _ _ _ h => h) (Or.inl ⟨by rfl, ?_⟩) ?_ ?_
           rotate_left
           ·intro w'
            go_simp
            with_reducible rfl
           rotate_left
           ·simp only [Act.put, sA_, sB_, sC_, i64_w, i32_w]
            rfl
           refine pure_ (i := 7) (N := some 34) (v := ?_) (a' := ?_) L17_8 rfl rfl (any_of HT_.out (by kernel_rfl)) (fun _ _ _ h => h) (Or.inl ⟨by rfl, ?_⟩) ?_ ?_
           rotate_left
           ·intro w'
            go_simp
            with_reducible rfl
           rotate_left
           ·simp only [Act.put, sA_, sB_, sC_, i64_w, i32_w]
            rfl
           refine pure_ (i := 8) (N := some 35) (v := ?_) (a' := ?_) L17_14 rfl rfl (any_of HT_.out (by kernel_rfl)) (fun _ _ _ h => h) (Or.inl ⟨by rfl, ?_⟩) ?_ ?_
           rotate_left
           ·intro w'
            go_simp
            with_reducible rfl
           rotate_left
           ·simp only [Act.put, sA_, sB_, sC_, i64_w, i32_w]
            rfl
           refine pure_ (i := 9) (N := some 36) (v := ?_) (a' := ?_) L17_15 rfl rfl (any_of HT_.out (by kernel_rfl)) (fun _ _ _ h => h) (Or.inl ⟨by rfl, ?_⟩) ?_ ?_
           rotate_left
           ·intro w'
            go_simp
            with_reducible rfl
           rotate_left
           ·simp only [Act.put, sA_, sB_, sC_, i64_w, i32_w]
            rfl
           refine pure_ (i := 10) (N := some 37) (v := ?_) (a' := ?_) L17_16 rfl rfl (any_of HT_.out (by kernel_rfl)) (fun _ _ _ h => h) (Or.inl ⟨by rfl, ?_⟩) ?_ ?_
           rotate_left
           ·intro w'
            go_simp
            with_reducible rfl
           rotate_left
           ·simp only [Act.put, sA_, sB_, sC_, i64_w, i32_w]
            rfl
           refine pure_ (i := 11) (N := some 38) (v := ?_) (a' := ?_) L17_17 rfl rfl (any_of HT_.out (by kernel_rfl)) (fun _ _ _ h => h) (Or.inl ⟨by rfl, ?_⟩) ?_ ?_
           rotate_left
           ·intro w'
            go_simp
            with_reducible rfl
           rotate_left
           ·simp only [Act.put, sA_, sB_, sC_, i64_w, i32_w]
            rfl
           refine pure_ (i := 14) (N := some 41) (v := ?_) (a' := ?_) L17_18 rfl rfl (any_of HT_.out (by kernel_rfl)) (fun _ _ _ h => h) (Or.inl ⟨by rfl, ?_⟩) ?_ ?_
           rotate_left
           ·intro w'
            go_simp
            with_reducible rfl
           rotate_left
           ·simp only [Act.put, sA_, sB_, sC_, i64_w, i32_w]
            rfl
           refine pure_ (i := 15) (N := some 42) (v := ?_) (a' := ?_) L17_19 rfl rfl (any_of HT_.out (by kernel_rfl)) (fun _ _ _ h => h) (Or.inl ⟨by rfl, ?_⟩) ?_ ?_
           rotate_left
           ·intro w'
            go_simp
            with_reducible rfl
           rotate_left
           ·simp only [Act.put, sA_, sB_, sC_, i64_w, i32_w]
            rfl
           refine pure_ (i := 16) (N := some 43) (v := ?_) (a' := ?_) L17_20 rfl rfl (any_of HT_.out (by kernel_rfl)) (fun _ _ _ h => h) (Or.inl ⟨by rfl, ?_⟩) ?_ ?_
           rotate_left
           ·intro w'
            go_simp
            with_reducible rfl
           rotate_left
           ·simp only [Act.put, sA_, sB_, sC_, i64_w, i32_w]
            rfl
           refine pure_ (i := 17) (N := some 44) (v := ?_) (a' := ?_) L17_21 rfl rfl (any_of HT_.out (by kernel_rfl)) (fun _ _ _ h => h) (Or.inl ⟨by rfl, ?_⟩) ?_ ?_
           rotate_left
           ·intro w'
            go_simp
            with_reducible rfl
           rotate_left
           ·simp only [Act.put, sA_, sB_, sC_, i64_w, i32_w]
            rfl
           refine take_ (i := 12) (N := some 39) (v := ?_) (a' := ?_) L17_22 rfl rfl (take_ofW HT_.out HW_.out (by kernel_rfl)) (fun _ _ _ h => h) (Or.inl ⟨by rfl, ?_⟩) hHeld ?_ ?_
           rotate_left
           ·rintro w' ⟨s0, s1, s2, s3, s4, s5, s6, s7, s8⟩
            go_simp
            with_reducible rfl
           rotate_left
           ·simp only [Act.put, sA_, sB_, sC_, i64_w, i32_w]
            rfl
           refine pure_ (i := 13) (N := some 40) (v := ?_) (a' := ?_) L17_23 rfl rfl (any_of HT_.out (by kernel_rfl)) (fun _ _ _ h => h) (Or.inl ⟨by rfl, ?_⟩) ?_ ?_
           rotate_left
           ·intro w'
            go_simp
            with_reducible rfl
           rotate_left
           ·simp only [Act.put, sA_, sB_, sC_, i64_w, i32_w]
            rfl
           refine take_ (i := 18) (N := some 45) (v := ?_) (a' := ?_) L17_24 rfl rfl (take_ofW HT_.out HW_.out (by kernel_rfl)) (fun _ _ _ h => h) (Or.inl ⟨by rfl, ?_⟩) hHeld ?_ ?_
           rotate_left
           ·rintro w' ⟨s0, s1, s2, s3, s4, s5, s6, s7, s8⟩
            go_simp
            with_reducible rfl
           rotate_left
           ·simp only [Act.put, sA_, sB_, sC_, i64_w, i32_w]
            rfl
           refine one_ (i := 19) (N := some 46) L17_25 rfl rfl (one_of HT_.out (by kernel_rfl)) (by decide) (fun K hK => ?_)
           refine goes_ Try.func36 (by kernel_rfl) rfl #[.int .i64 ((rd_T36 l0 x3_2).f0)] (by rfl) rfl rfl (by (try simp only [List.map_toArray, List.map_cons, List.map_nil]); first | done | rfl | (simp only [List.length_drop, List.length_take]; rfl)) ?_
           with_reducible refine (fullerref10_Arity.calls k2 ((rd_T36 l0 x3_2).f0) t201 _ A13.out).mono ?_
           rintro e w' ⟨rfl, ⟨nd, rfl⟩⟩
           refine ⟨_, rfl, ?_⟩
           refine hK.out _ _ ⟨((HB.out.cell (World.block_lt_of_cell? w _ hw197_0)).trans hw197_0), ((HB.out.cell (World.block_lt_of_cell? w _ hw197_1)).trans hw197_1), ((HB.out.cell (World.block_lt_of_cell? w _ hw197_2)).trans hw197_2), ((HB.out.cell (World.block_lt_of_cell? w _ hw199_0)).trans hw199_0), ((HB.out.cell (World.block_lt_of_cell? w _ hw199_1)).trans hw199_1), ((HB.out.cell (World.block_lt_of_cell? w _ hw199_2)).trans hw199_2), ((HB.out.cell (World.block_lt_of_cell? w _ hw200_0)).trans hw200_0), ((HB.out.cell (World.block_lt_of_cell? w _ hw200_1)).trans hw200_1), ((HB.out.cell (World.block_lt_of_cell? w _ hw200_2)).trans hw200_2)⟩ (fun hHeld => ?_)
           clear hK K
           refine norm_ (a' := ?_) ?_ ?_
           rotate_left
           ·show Act.put _ (some 46) _ = _
            simp only [Act.put, sA_, sB_, sC_, i64_w, i32_w]
            rfl
           refine pure_ (i := 20) (N := some 47) (v := ?_) (a' := ?_) L17_9 rfl rfl (any_of HT_.out (by kernel_rfl)) (fun _ _ _ h => h) (Or.inl ⟨by rfl, ?_⟩) ?_ ?_
           rotate_left
           ·intro w'
            go_simp
            with_reducible rfl
           rotate_left
           ·simp only [Act.put, sA_, sB_, sC_, i64_w, i32_w]
            rfl
           refine pure_ (i := 21) (N := some 48) (v := ?_) (a' := ?_) L17_10 rfl rfl (any_of HT_.out (by kernel_rfl)) (fun _ _ _ h => h) (Or.inl ⟨by rfl, ?_⟩) ?_ ?_
           rotate_left
           ·intro w'
            go_simp
            with_reducible rfl
           rotate_left
           ·simp only [Act.put, sA_, sB_, sC_, i64_w, i32_w]
            rfl
           refine pure_ (i := 22) (N := some 49) (v := ?_) (a' := ?_) L17_11 rfl rfl (any_of HT_.out (by kernel_rfl)) (fun _ _ _ h => h) (Or.inl ⟨by rfl, ?_⟩) ?_ ?_
           rotate_left
           ·intro w'
            go_simp
            with_reducible rfl
           rotate_left
           ·simp only [Act.put, sA_, sB_, sC_, i64_w, i32_w]
            rfl
           refine skips_ (fuel := 1) (m := 3) HT_.out (fun _ _ _ _ _ h => h) [(23, 50), (24, 51)] L17_12 rfl (by kernel_rfl) (by kernel_rfl) (a' := ?_) ?_ ?_
           rotate_left
           ·simp only [putU, Act.put, sA_, sB_, sC_]
            rfl
           refine pure_ (i := 25) (N := some 52) (v := ?_) (a' := ?_) L17_13 rfl rfl (any_of HT_.out (by kernel_rfl)) (fun _ _ _ h => h) (Or.inl ⟨by rfl, ?_⟩) ?_ ?_
           rotate_left
           ·intro w'
            go_simp
            with_reducible rfl
           rotate_left
           ·simp only [Act.put, sA_, sB_, sC_, i64_w, i32_w]
            rfl
           refine done_ (done_of HT_.out (by kernel_rfl)) ?_
           try go_wp2
           go_meet
           case rel => exact ⟨_, (true), (by first | rfl | (simp; done) | (simp [*]; done)), H', ⟨by have := HJ1.out; have := HK2.out; first | omega | exact Nat.le_refl _⟩, ⟨by repeat (first | (with_reducible first | exact HB.out | apply below_alloc | apply pw_below_drewN | apply below_drew1) | exact HB.out)⟩⟩
        case rest =>
         clear HC8
         try clear c1
         try clear p1
         try clear q1
         try clear hx1
         try clear c2
         try clear p2
         try clear q2
         try clear hx2
         try clear c3
         try clear c14
         try clear c14b0
         try clear c14b1
         try clear hx197_0
         try clear hx197_1
         try clear hx197_2
         try clear hx199_0
         try clear hx199_1
         try clear hx199_2
         try clear hx200_0
         try clear hx200_1
         try clear hx200_2
         try clear p197
         try clear p199
         try clear p200
         try clear q197
         try clear q199
         try clear q200
         obtain ⟨kq, x52_7, rfl, HA, HJ7, HB⟩ := hcut
         cases kq with
         | zero => exact absurd HA.out (by simp [fullerref10_Check.j2])
         | succ kj7 =>
          have H := HA.out
          clear HA
          simp only [fullerref10_Check.j2] at H
          by_cases c17 : x52_7 = true
          ·subst c17
           have H1 : (some false) = some r := by rw [if_pos rfl] at H; exact H
           clear H
           have H := H1
           clear H1
           obtain rfl := Option.some.inj H
           go_wp2
           go_ret
           exact ⟨by first | rfl | (simp [errW_none, errW_some] <;> rfl) | (simp [*, errW_none, errW_some] <;> rfl), by repeat (first | (with_reducible first | exact HB.out | apply below_alloc | apply pw_below_drewN | apply below_drew1) | exact HB.out)⟩
          ·replace c17 := Bool.eq_false_iff.mpr c17
           subst c17
           have H1 : (fullerref10_Check.l1 kj7 l0 x3_2 0) = some r := by rw [if_neg (show ¬ (false = true) by decide)] at H; exact H
           clear H
           have H := H1
           clear H1
           have H' := Aside0.mk H
           clear H
           go_wp2
           go_loopg [5] kj7 (fun kq v5 w' => ∃ (x5_4 : Int), v5 = .int .i64 x5_4 ∧ Aside0 (fullerref10_Check.l1 kq l0 x3_2 x5_4 = some r) ∧ Aside0 (kq ≤ kj7) ∧ Aside0 (Below w.heap.size w w'))
           case atStart => exact ⟨(0), (by first | rfl | (simp; done) | (simp [*]; done)), H', ⟨Nat.le_refl _⟩, ⟨by repeat (first | (with_reducible first | exact HB.out | apply below_alloc | apply pw_below_drewN | apply below_drew1) | exact HB.out)⟩⟩
           case round =>
            clear H'
            try clear c1
            try clear p1
            try clear q1
            try clear hx1
            try clear c2
            try clear p2
            try clear q2
            try clear hx2
            try clear c3
            try clear c14
            try clear c14b0
            try clear c14b1
            try clear c17
            try clear hx197_0
            try clear hx197_1
            try clear hx197_2
            try clear hx199_0
            try clear hx199_1
            try clear hx199_2
            try clear hx200_0
            try clear hx200_1
            try clear hx200_2
            try clear p1
            try clear p197
            try clear p199
            try clear p2
            try clear p200
            try clear q1
            try clear q197
            try clear q199
            try clear q2
            try clear q200
            obtain ⟨x5_4, rfl, HA, HK4, HB⟩ := hrel
            cases gk with
            | zero => exact absurd HA.out (by simp [fullerref10_Check.l1])
            | succ k4 =>
             have H := HA.out
             clear HA
             simp only [fullerref10_Check.l1] at H
             by_cases c18 : 0 ≤ x3_2
             ·rw [if_pos c18] at H
              have c18b0 : decide (0 ≤ x3_2) = true := decide_eq_true c18
              clear c18
              by_cases c19 : x3_2 < (l0.length : Int)
              ·rw [if_pos c19] at H
               have c19b0 : decide (x3_2 < (l0.length : Int)) = true := decide_eq_true c19
               clear c19
               by_cases c20 : x5_4 < (((rd_T36 l0 x3_2).f1).length : Int)
               ·rw [if_pos c20] at H
                have c20b0 : decide (x5_4 < (((rd_T36 l0 x3_2).f1).length : Int)) = true := decide_eq_true c20
                clear c20
                by_cases c21 : 0 ≤ x5_4
                ·rw [if_pos c21] at H
                 have c21b0 : decide (0 ≤ x5_4) = true := decide_eq_true c21
                 clear c21
                 by_cases c22 : (rd ((rd_T36 l0 x3_2).f1) x5_4) < 0
                 ·rw [if_pos c22] at H
                  have c22b0 : decide ((rd ((rd_T36 l0 x3_2).f1) x5_4) < 0) = true := decide_eq_true c22
                  clear c22
                  obtain rfl := Option.some.inj H
                  have p202 : 0 ≤ (x3_2 : Int) := od_
                  have q202 : x3_2 < (l0.length : Int) := od_
                  obtain ⟨ad202, A202_1, c202_1, A202_2, c202_2, e202, hx202_0, hx202_1, hx202_2, hl202_1, hi202_1, hl202_2, hi202_2⟩ := at_T36 HR0.out x3_2 p202 q202
                  obtain rfl : ad195 = ad202 := (by injection e202)
                  replace hx202_0 := (HB.out.cell (World.block_lt_of_cell? w _ hx202_0)).trans hx202_0
                  replace hx202_1 := (HB.out.cell (World.block_lt_of_cell? w _ hx202_1)).trans hx202_1
                  replace hx202_2 := (HB.out.cell (World.block_lt_of_cell? w _ hx202_2)).trans hx202_2
                  have HR202_1 := Aside0.mk hi202_1
                  have HC202_1 := Aside0.mk hl202_1
                  clear hi202_1 hl202_1
                  have HR202_2 := Aside0.mk hi202_2
                  have HC202_2 := Aside0.mk hl202_2
                  clear hi202_2 hl202_2
                  replace p202 := eq_true p202
                  replace q202 := eq_true q202
                  have p203 : 0 ≤ (x3_2 : Int) := od_
                  have q203 : x3_2 < (l0.length : Int) := od_
                  obtain ⟨ad203, A203_1, c203_1, A203_2, c203_2, e203, hx203_0, hx203_1, hx203_2, hl203_1, hi203_1, hl203_2, hi203_2⟩ := at_T36 HR0.out x3_2 p203 q203
                  obtain rfl : ad195 = ad203 := (by injection e203)
                  replace hx203_0 := (HB.out.cell (World.block_lt_of_cell? w _ hx203_0)).trans hx203_0
                  replace hx203_1 := (HB.out.cell (World.block_lt_of_cell? w _ hx203_1)).trans hx203_1
                  replace hx203_2 := (HB.out.cell (World.block_lt_of_cell? w _ hx203_2)).trans hx203_2
                  have HR203_1 := Aside0.mk hi203_1
                  have HC203_1 := Aside0.mk hl203_1
                  clear hi203_1 hl203_1
                  have HR203_2 := Aside0.mk hi203_2
                  have HC203_2 := Aside0.mk hl203_2
                  clear hi203_2 hl203_2
                  replace p203 := eq_true p203
                  replace q203 := eq_true q203
                  have ea_ := Option.some.inj (hx202_1.symm.trans hx203_1)
                  injection ea_ with ea_ en_ ec_
                  subst ea_
                  subst ec_
                  clear en_
                  have ea_ := Option.some.inj (hx202_2.symm.trans hx203_2)
                  injection ea_ with ea_ en_ ec_
                  subst ea_
                  subst ec_
                  clear en_
                  have p204 : 0 ≤ (x5_4 : Int) := od_
                  have q204 : x5_4 < (((rd_T36 l0 x3_2).f1).length : Int) := od_
                  obtain ⟨ad204, e204, hx204_0⟩ := Kd.at_int HR203_1.out x5_4 p204 q204
                  cases e204
                  replace hx204_0 := (HB.out.cell (World.block_lt_of_cell? w _ hx204_0)).trans hx204_0
                  replace p204 := eq_true p204
                  replace q204 := eq_true q204
                  go_wp2
                  go_ret
                  exact ⟨by first | rfl | (simp [errW_none, errW_some] <;> rfl) | (simp [*, errW_none, errW_some] <;> rfl), by repeat (first | (with_reducible first | exact HB.out | apply below_alloc | apply pw_below_drewN | apply below_drew1) | exact HB.out)⟩
                 ·rw [if_neg c22] at H
                  have c22b0 : decide ((rd ((rd_T36 l0 x3_2).f1) x5_4) < 0) = false := decide_eq_false c22
                  clear c22
                  by_cases c23 : (rd ((rd_T36 l0 x3_2).f1) x5_4) ≥ x3_2
                  ·rw [if_pos c23] at H
                   have c23b0 : decide (x3_2 ≤ (rd ((rd_T36 l0 x3_2).f1) x5_4)) = true := decide_eq_true c23
                   clear c23
                   obtain rfl := Option.some.inj H
                   have p202 : 0 ≤ (x3_2 : Int) := od_
                   have q202 : x3_2 < (l0.length : Int) := od_
                   obtain ⟨ad202, A202_1, c202_1, A202_2, c202_2, e202, hx202_0, hx202_1, hx202_2, hl202_1, hi202_1, hl202_2, hi202_2⟩ := at_T36 HR0.out x3_2 p202 q202
                   obtain rfl : ad195 = ad202 := (by injection e202)
                   replace hx202_0 := (HB.out.cell (World.block_lt_of_cell? w _ hx202_0)).trans hx202_0
                   replace hx202_1 := (HB.out.cell (World.block_lt_of_cell? w _ hx202_1)).trans hx202_1
                   replace hx202_2 := (HB.out.cell (World.block_lt_of_cell? w _ hx202_2)).trans hx202_2
                   have HR202_1 := Aside0.mk hi202_1
                   have HC202_1 := Aside0.mk hl202_1
                   clear hi202_1 hl202_1
                   have HR202_2 := Aside0.mk hi202_2
                   have HC202_2 := Aside0.mk hl202_2
                   clear hi202_2 hl202_2
                   replace p202 := eq_true p202
                   replace q202 := eq_true q202
                   have p203 : 0 ≤ (x3_2 : Int) := od_
                   have q203 : x3_2 < (l0.length : Int) := od_
                   obtain ⟨ad203, A203_1, c203_1, A203_2, c203_2, e203, hx203_0, hx203_1, hx203_2, hl203_1, hi203_1, hl203_2, hi203_2⟩ := at_T36 HR0.out x3_2 p203 q203
                   obtain rfl : ad195 = ad203 := (by injection e203)
                   replace hx203_0 := (HB.out.cell (World.block_lt_of_cell? w _ hx203_0)).trans hx203_0
                   replace hx203_1 := (HB.out.cell (World.block_lt_of_cell? w _ hx203_1)).trans hx203_1
                   replace hx203_2 := (HB.out.cell (World.block_lt_of_cell? w _ hx203_2)).trans hx203_2
                   have HR203_1 := Aside0.mk hi203_1
                   have HC203_1 := Aside0.mk hl203_1
                   clear hi203_1 hl203_1
                   have HR203_2 := Aside0.mk hi203_2
                   have HC203_2 := Aside0.mk hl203_2
                   clear hi203_2 hl203_2
                   replace p203 := eq_true p203
                   replace q203 := eq_true q203
                   have ea_ := Option.some.inj (hx202_1.symm.trans hx203_1)
                   injection ea_ with ea_ en_ ec_
                   subst ea_
                   subst ec_
                   clear en_
                   have ea_ := Option.some.inj (hx202_2.symm.trans hx203_2)
                   injection ea_ with ea_ en_ ec_
                   subst ea_
                   subst ec_
                   clear en_
                   have p204 : 0 ≤ (x5_4 : Int) := od_
                   have q204 : x5_4 < (((rd_T36 l0 x3_2).f1).length : Int) := od_
                   obtain ⟨ad204, e204, hx204_0⟩ := Kd.at_int HR203_1.out x5_4 p204 q204
                   cases e204
                   replace hx204_0 := (HB.out.cell (World.block_lt_of_cell? w _ hx204_0)).trans hx204_0
                   replace p204 := eq_true p204
                   replace q204 := eq_true q204
                   have p205 : 0 ≤ (x3_2 : Int) := od_
                   have q205 : x3_2 < (l0.length : Int) := od_
                   obtain ⟨ad205, A205_1, c205_1, A205_2, c205_2, e205, hx205_0, hx205_1, hx205_2, hl205_1, hi205_1, hl205_2, hi205_2⟩ := at_T36 HR0.out x3_2 p205 q205
                   obtain rfl : ad195 = ad205 := (by injection e205)
                   replace hx205_0 := (HB.out.cell (World.block_lt_of_cell? w _ hx205_0)).trans hx205_0
                   replace hx205_1 := (HB.out.cell (World.block_lt_of_cell? w _ hx205_1)).trans hx205_1
                   replace hx205_2 := (HB.out.cell (World.block_lt_of_cell? w _ hx205_2)).trans hx205_2
                   have HR205_1 := Aside0.mk hi205_1
                   have HC205_1 := Aside0.mk hl205_1
                   clear hi205_1 hl205_1
                   have HR205_2 := Aside0.mk hi205_2
                   have HC205_2 := Aside0.mk hl205_2
                   clear hi205_2 hl205_2
                   replace p205 := eq_true p205
                   replace q205 := eq_true q205
                   have ea_ := Option.some.inj (hx202_1.symm.trans hx205_1)
                   injection ea_ with ea_ en_ ec_
                   subst ea_
                   subst ec_
                   clear en_
                   have ea_ := Option.some.inj (hx202_2.symm.trans hx205_2)
                   injection ea_ with ea_ en_ ec_
                   subst ea_
                   subst ec_
                   clear en_
                   have p206 : 0 ≤ (x5_4 : Int) := od_
                   have q206 : x5_4 < (((rd_T36 l0 x3_2).f1).length : Int) := od_
                   obtain ⟨ad206, e206, hx206_0⟩ := Kd.at_int HR205_1.out x5_4 p206 q206
                   cases e206
                   replace hx206_0 := (HB.out.cell (World.block_lt_of_cell? w _ hx206_0)).trans hx206_0
                   replace p206 := eq_true p206
                   replace q206 := eq_true q206
                   go_wp2
                   go_ret
                   exact ⟨by first | rfl | (simp [errW_none, errW_some] <;> rfl) | (simp [*, errW_none, errW_some] <;> rfl), by repeat (first | (with_reducible first | exact HB.out | apply below_alloc | apply pw_below_drewN | apply below_drew1) | exact HB.out)⟩
                  ·rw [if_neg c23] at H
                   have c23b0 : decide (x3_2 ≤ (rd ((rd_T36 l0 x3_2).f1) x5_4)) = false := decide_eq_false c23
                   clear c23
                   have H' := Aside0.mk H
                   clear H
                   have p202 : 0 ≤ (x3_2 : Int) := od_
                   have q202 : x3_2 < (l0.length : Int) := od_
                   obtain ⟨ad202, A202_1, c202_1, A202_2, c202_2, e202, hx202_0, hx202_1, hx202_2, hl202_1, hi202_1, hl202_2, hi202_2⟩ := at_T36 HR0.out x3_2 p202 q202
                   obtain rfl : ad195 = ad202 := (by injection e202)
                   replace hx202_0 := (HB.out.cell (World.block_lt_of_cell? w _ hx202_0)).trans hx202_0
                   replace hx202_1 := (HB.out.cell (World.block_lt_of_cell? w _ hx202_1)).trans hx202_1
                   replace hx202_2 := (HB.out.cell (World.block_lt_of_cell? w _ hx202_2)).trans hx202_2
                   have HR202_1 := Aside0.mk hi202_1
                   have HC202_1 := Aside0.mk hl202_1
                   clear hi202_1 hl202_1
                   have HR202_2 := Aside0.mk hi202_2
                   have HC202_2 := Aside0.mk hl202_2
                   clear hi202_2 hl202_2
                   replace p202 := eq_true p202
                   replace q202 := eq_true q202
                   have p203 : 0 ≤ (x3_2 : Int) := od_
                   have q203 : x3_2 < (l0.length : Int) := od_
                   obtain ⟨ad203, A203_1, c203_1, A203_2, c203_2, e203, hx203_0, hx203_1, hx203_2, hl203_1, hi203_1, hl203_2, hi203_2⟩ := at_T36 HR0.out x3_2 p203 q203
                   obtain rfl : ad195 = ad203 := (by injection e203)
                   replace hx203_0 := (HB.out.cell (World.block_lt_of_cell? w _ hx203_0)).trans hx203_0
                   replace hx203_1 := (HB.out.cell (World.block_lt_of_cell? w _ hx203_1)).trans hx203_1
                   replace hx203_2 := (HB.out.cell (World.block_lt_of_cell? w _ hx203_2)).trans hx203_2
                   have HR203_1 := Aside0.mk hi203_1
                   have HC203_1 := Aside0.mk hl203_1
                   clear hi203_1 hl203_1
                   have HR203_2 := Aside0.mk hi203_2
                   have HC203_2 := Aside0.mk hl203_2
                   clear hi203_2 hl203_2
                   replace p203 := eq_true p203
                   replace q203 := eq_true q203
                   have ea_ := Option.some.inj (hx202_1.symm.trans hx203_1)
                   injection ea_ with ea_ en_ ec_
                   subst ea_
                   subst ec_
                   clear en_
                   have ea_ := Option.some.inj (hx202_2.symm.trans hx203_2)
                   injection ea_ with ea_ en_ ec_
                   subst ea_
                   subst ec_
                   clear en_
                   have p204 : 0 ≤ (x5_4 : Int) := od_
                   have q204 : x5_4 < (((rd_T36 l0 x3_2).f1).length : Int) := od_
                   obtain ⟨ad204, e204, hx204_0⟩ := Kd.at_int HR203_1.out x5_4 p204 q204
                   cases e204
                   replace hx204_0 := (HB.out.cell (World.block_lt_of_cell? w _ hx204_0)).trans hx204_0
                   replace p204 := eq_true p204
                   replace q204 := eq_true q204
                   have p205 : 0 ≤ (x3_2 : Int) := od_
                   have q205 : x3_2 < (l0.length : Int) := od_
                   obtain ⟨ad205, A205_1, c205_1, A205_2, c205_2, e205, hx205_0, hx205_1, hx205_2, hl205_1, hi205_1, hl205_2, hi205_2⟩ := at_T36 HR0.out x3_2 p205 q205
                   obtain rfl : ad195 = ad205 := (by injection e205)
                   replace hx205_0 := (HB.out.cell (World.block_lt_of_cell? w _ hx205_0)).trans hx205_0
                   replace hx205_1 := (HB.out.cell (World.block_lt_of_cell? w _ hx205_1)).trans hx205_1
                   replace hx205_2 := (HB.out.cell (World.block_lt_of_cell? w _ hx205_2)).trans hx205_2
                   have HR205_1 := Aside0.mk hi205_1
                   have HC205_1 := Aside0.mk hl205_1
                   clear hi205_1 hl205_1
                   have HR205_2 := Aside0.mk hi205_2
                   have HC205_2 := Aside0.mk hl205_2
                   clear hi205_2 hl205_2
                   replace p205 := eq_true p205
                   replace q205 := eq_true q205
                   have ea_ := Option.some.inj (hx202_1.symm.trans hx205_1)
                   injection ea_ with ea_ en_ ec_
                   subst ea_
                   subst ec_
                   clear en_
                   have ea_ := Option.some.inj (hx202_2.symm.trans hx205_2)
                   injection ea_ with ea_ en_ ec_
                   subst ea_
                   subst ec_
                   clear en_
                   have p206 : 0 ≤ (x5_4 : Int) := od_
                   have q206 : x5_4 < (((rd_T36 l0 x3_2).f1).length : Int) := od_
                   obtain ⟨ad206, e206, hx206_0⟩ := Kd.at_int HR205_1.out x5_4 p206 q206
                   cases e206
                   replace hx206_0 := (HB.out.cell (World.block_lt_of_cell? w _ hx206_0)).trans hx206_0
                   replace p206 := eq_true p206
                   replace q206 := eq_true q206
                   go_wp2
                   go_roundg k4
                   case measure => have := HJ1.out; have := HK2.out; have := HJ7.out; have := HK4.out; omega
                   case rel => exact ⟨(wrap64 (x5_4 + 1)), (by first | rfl | (simp; done) | (simp [*]; done)), H', ⟨by have := HJ1.out; have := HK2.out; have := HJ7.out; have := HK4.out; omega⟩, ⟨by repeat (first | (with_reducible first | exact HB.out | apply below_alloc | apply pw_below_drewN | apply below_drew1) | exact HB.out)⟩⟩
                ·rw [if_neg c21] at H
                 exact absurd H (by simp)
               ·rw [if_neg c20] at H
                have c20b0 : decide (x5_4 < (((rd_T36 l0 x3_2).f1).length : Int)) = false := decide_eq_false c20
                clear c20
                have H' := Aside0.mk H
                clear H
                have p202 : 0 ≤ (x3_2 : Int) := od_
                have q202 : x3_2 < (l0.length : Int) := od_
                obtain ⟨ad202, A202_1, c202_1, A202_2, c202_2, e202, hx202_0, hx202_1, hx202_2, hl202_1, hi202_1, hl202_2, hi202_2⟩ := at_T36 HR0.out x3_2 p202 q202
                obtain rfl : ad195 = ad202 := (by injection e202)
                replace hx202_0 := (HB.out.cell (World.block_lt_of_cell? w _ hx202_0)).trans hx202_0
                replace hx202_1 := (HB.out.cell (World.block_lt_of_cell? w _ hx202_1)).trans hx202_1
                replace hx202_2 := (HB.out.cell (World.block_lt_of_cell? w _ hx202_2)).trans hx202_2
                have HR202_1 := Aside0.mk hi202_1
                have HC202_1 := Aside0.mk hl202_1
                clear hi202_1 hl202_1
                have HR202_2 := Aside0.mk hi202_2
                have HC202_2 := Aside0.mk hl202_2
                clear hi202_2 hl202_2
                replace p202 := eq_true p202
                replace q202 := eq_true q202
                go_wp2
                go_loopg [6] k4 (fun kq v6 w' => ∃ (x6_5 : Int), v6 = .int .i64 x6_5 ∧ Aside0 (fullerref10_Check.l2 kq l0 x3_2 x6_5 = some r) ∧ Aside0 (kq ≤ k4) ∧ Aside0 (Below w.heap.size w w'))
                case atStart => exact ⟨(0), (by first | rfl | (simp; done) | (simp [*]; done)), H', ⟨Nat.le_refl _⟩, ⟨by repeat (first | (with_reducible first | exact HB.out | apply below_alloc | apply pw_below_drewN | apply below_drew1) | exact HB.out)⟩⟩
                case round =>
                 clear H'
                 try clear c1
                 try clear p1
                 try clear q1
                 try clear hx1
                 try clear c2
                 try clear p2
                 try clear q2
                 try clear hx2
                 try clear c3
                 try clear p6
                 try clear c14
                 try clear c14b0
                 try clear c14b1
                 try clear c17
                 try clear c18
                 try clear c18b0
                 try clear c19
                 try clear c19b0
                 try clear p19
                 try clear q19
                 try clear hx19
                 try clear c20
                 try clear c20b0
                 try clear p20
                 try clear q20
                 try clear hx20
                 try clear c21
                 try clear c21b0
                 try clear c22
                 try clear c22b0
                 try clear c23
                 try clear c23b0
                 try clear hx197_0
                 try clear hx197_1
                 try clear hx197_2
                 try clear hx199_0
                 try clear hx199_1
                 try clear hx199_2
                 try clear hx200_0
                 try clear hx200_1
                 try clear hx200_2
                 try clear hx202_0
                 try clear hx202_1
                 try clear hx202_2
                 try clear hx203_0
                 try clear hx203_1
                 try clear hx203_2
                 try clear hx204_0
                 try clear hx205_0
                 try clear hx205_1
                 try clear hx205_2
                 try clear hx206_0
                 try clear p1
                 try clear p197
                 try clear p199
                 try clear p2
                 try clear p200
                 try clear p202
                 try clear p203
                 try clear p204
                 try clear p205
                 try clear p206
                 try clear q1
                 try clear q197
                 try clear q199
                 try clear q2
                 try clear q200
                 try clear q202
                 try clear q203
                 try clear q204
                 try clear q205
                 try clear q206
                 obtain ⟨x6_5, rfl, HA, HK5, HB⟩ := hrel
                 cases gk with
                 | zero => exact absurd HA.out (by simp [fullerref10_Check.l2])
                 | succ k5 =>
                  have H := HA.out
                  clear HA
                  simp only [fullerref10_Check.l2] at H
                  by_cases c24 : x6_5 < x3_2
                  ·rw [if_pos c24] at H
                   have c24b0 : decide (x6_5 < x3_2) = true := decide_eq_true c24
                   clear c24
                   by_cases c25 : 0 ≤ x6_5
                   ·rw [if_pos c25] at H
                    have c25b0 : decide (0 ≤ x6_5) = true := decide_eq_true c25
                    clear c25
                    by_cases c26 : x6_5 < (l0.length : Int)
                    ·rw [if_pos c26] at H
                     have c26b0 : decide (x6_5 < (l0.length : Int)) = true := decide_eq_true c26
                     clear c26
                     by_cases c27 : 0 ≤ x3_2
                     ·rw [if_pos c27] at H
                      have c27b0 : decide (0 ≤ x3_2) = true := decide_eq_true c27
                      clear c27
                      by_cases c28 : x3_2 < (l0.length : Int)
                      ·rw [if_pos c28] at H
                       have c28b0 : decide (x3_2 < (l0.length : Int)) = true := decide_eq_true c28
                       clear c28
                       replace H := Option.bind_eq_some_iff.mp H
                       obtain ⟨t209, A290, H⟩ := H
                       replace H : (if t209 = true then (fullerref10_Check.l2 k5 l0 x3_2 (wrap64 (x6_5 + 1))) else (some false)) = some r := H
                       have A29 := Aside0.mk A290
                       clear A290
                       by_cases c30 : t209 = true
                       ·subst c30
                        have H1 : (fullerref10_Check.l2 k5 l0 x3_2 (wrap64 (x6_5 + 1))) = some r := by rw [if_pos rfl] at H; exact H
                        clear H
                        have H := H1
                        clear H1
                        have H' := Aside0.mk H
                        clear H
                        try go_wp2
                        have n0_ := Aside0.mk (below_drew1 HB.out)
                        clear HB
                        have HB := n0_
                        clear n0_
                        have p207 : 0 ≤ (x6_5 : Int) := od_
                        have q207 : x6_5 < (l0.length : Int) := od_
                        obtain ⟨ad207, A207_1, c207_1, A207_2, c207_2, e207, hx207_0, hx207_1, hx207_2, hl207_1, hi207_1, hl207_2, hi207_2⟩ := at_T36 HR0.out x6_5 p207 q207
                        have hw207_2 := hx207_2
                        have hw207_1 := hx207_1
                        have hw207_0 := hx207_0
                        obtain rfl : ad195 = ad207 := (by injection e207)
                        replace hx207_0 := (HB.out.cell (World.block_lt_of_cell? w _ hx207_0)).trans hx207_0
                        replace hx207_1 := (HB.out.cell (World.block_lt_of_cell? w _ hx207_1)).trans hx207_1
                        replace hx207_2 := (HB.out.cell (World.block_lt_of_cell? w _ hx207_2)).trans hx207_2
                        have HR207_1 := Aside0.mk hi207_1
                        have HC207_1 := Aside0.mk hl207_1
                        clear hi207_1 hl207_1
                        have HR207_2 := Aside0.mk hi207_2
                        have HC207_2 := Aside0.mk hl207_2
                        clear hi207_2 hl207_2
                        replace p207 := eq_true p207
                        replace q207 := eq_true q207
                        have p208 : 0 ≤ (x3_2 : Int) := od_
                        have q208 : x3_2 < (l0.length : Int) := od_
                        obtain ⟨ad208, A208_1, c208_1, A208_2, c208_2, e208, hx208_0, hx208_1, hx208_2, hl208_1, hi208_1, hl208_2, hi208_2⟩ := at_T36 HR0.out x3_2 p208 q208
                        have hw208_2 := hx208_2
                        have hw208_1 := hx208_1
                        have hw208_0 := hx208_0
                        obtain rfl : ad195 = ad208 := (by injection e208)
                        replace hx208_0 := (HB.out.cell (World.block_lt_of_cell? w _ hx208_0)).trans hx208_0
                        replace hx208_1 := (HB.out.cell (World.block_lt_of_cell? w _ hx208_1)).trans hx208_1
                        replace hx208_2 := (HB.out.cell (World.block_lt_of_cell? w _ hx208_2)).trans hx208_2
                        have HR208_1 := Aside0.mk hi208_1
                        have HC208_1 := Aside0.mk hl208_1
                        clear hi208_1 hl208_1
                        have HR208_2 := Aside0.mk hi208_2
                        have HC208_2 := Aside0.mk hl208_2
                        clear hi208_2 hl208_2
                        replace p208 := eq_true p208
                        replace q208 := eq_true q208
                        refine start_ (n := 10) (S := fun w' => w'.cell? (ad195.add ((x6_5).toNat * 3)) = some (.int .i64 ((rd_T36 l0 x6_5).f0)) ∧ w'.cell? ⟨(ad195.add ((x6_5).toNat * 3)).block, (ad195.add ((x6_5).toNat * 3)).off + 1, none⟩ = some (.slice A207_1 ((rd_T36 l0 x6_5).f1).length c207_1) ∧ w'.cell? ⟨(ad195.add ((x6_5).toNat * 3)).block, (ad195.add ((x6_5).toNat * 3)).off + 2, none⟩ = some (.slice A207_2 ((rd_T36 l0 x6_5).f2).length c207_2) ∧ w'.cell? (ad195.add ((x3_2).toNat * 3)) = some (.int .i64 ((rd_T36 l0 x3_2).f0)) ∧ w'.cell? ⟨(ad195.add ((x3_2).toNat * 3)).block, (ad195.add ((x3_2).toNat * 3)).off + 1, none⟩ = some (.slice A208_1 ((rd_T36 l0 x3_2).f1).length c208_1) ∧ w'.cell? ⟨(ad195.add ((x3_2).toNat * 3)).block, (ad195.add ((x3_2).toNat * 3)).off + 2, none⟩ = some (.slice A208_2 ((rd_T36 l0 x3_2).f2).length c208_2)) (ds := []) L17_27 (by kernel_rfl) rfl rfl ⟨((HB.out.cell (World.block_lt_of_cell? w _ hw207_0)).trans hw207_0), ((HB.out.cell (World.block_lt_of_cell? w _ hw207_1)).trans hw207_1), ((HB.out.cell (World.block_lt_of_cell? w _ hw207_2)).trans hw207_2), ((HB.out.cell (World.block_lt_of_cell? w _ hw208_0)).trans hw208_0), ((HB.out.cell (World.block_lt_of_cell? w _ hw208_1)).trans hw208_1), ((HB.out.cell (World.block_lt_of_cell? w _ hw208_2)).trans hw208_2)⟩ (fun hHeld => ?_); refine with_tabW fullerref10_Check.tab17 fullerref10_Check.bits17 (fun HT_ HW_ => ?_)
                        generalize wr.drew = w31 at HB HR207_1 HR207_2 HR208_1 HR208_2 hx207_0 hx207_1 hx207_2 hx208_0 hx208_1 hx208_2 hHeld ⊢
                        refine pure_ (i := 0) (N := some 89) (v := ?_) (a' := ?_) L17_28 rfl rfl (any_of HT_.out (by kernel_rfl)) (fun _ _ _ h => h) (Or.inl ⟨by rfl, ?_⟩) ?_ ?_
                        rotate_left
                        ·intro w'
                         go_simp
                         with_reducible rfl
                        rotate_left
                        ·simp only [Act.put, sA_, sB_, sC_, i64_w, i32_w]
                         rfl
                        refine pure_ (i := 1) (N := some 90) (v := ?_) (a' := ?_) L17_29 rfl rfl (any_of HT_.out (by kernel_rfl)) (fun _ _ _ h => h) (Or.inl ⟨by rfl, ?_⟩) ?_ ?_
                        rotate_left
                        ·intro w'
                         go_simp
                         with_reducible rfl
                        rotate_left
                        ·simp only [Act.put, sA_, sB_, sC_, i64_w, i32_w]
                         rfl
                        refine pure_ (i := 2) (N := some 91) (v := ?_) (a' := ?_) L17_30 rfl rfl (any_of HT_.out (by kernel_rfl)) (fun _ _ _ h => h) (Or.inl ⟨by rfl, ?_⟩) ?_ ?_
                        rotate_left
                        ·intro w'
                         go_simp
                         with_reducible rfl
                        rotate_left
                        ·simp only [Act.put, sA_, sB_, sC_, i64_w, i32_w]
                         rfl
                        refine pure_ (i := 4) (N := some 93) (v := ?_) (a' := ?_) L17_31 rfl rfl (any_of HT_.out (by kernel_rfl)) (fun _ _ _ h => h) (Or.inl ⟨by rfl, ?_⟩) ?_ ?_
                        rotate_left
                        ·intro w'
                         go_simp
                         with_reducible rfl
                        rotate_left
                        ·simp only [Act.put, sA_, sB_, sC_, i64_w, i32_w]
                         rfl
                        refine pure_ (i := 5) (N := some 94) (v := ?_) (a' := ?_) L17_32 rfl rfl (any_of HT_.out (by kernel_rfl)) (fun _ _ _ h => h) (Or.inl ⟨by rfl, ?_⟩) ?_ ?_
                        rotate_left
                        ·intro w'
                         go_simp
                         with_reducible rfl
                        rotate_left
                        ·simp only [Act.put, sA_, sB_, sC_, i64_w, i32_w]
                         rfl
                        refine pure_ (i := 6) (N := some 95) (v := ?_) (a' := ?_) L17_33 rfl rfl (any_of HT_.out (by kernel_rfl)) (fun _ _ _ h => h) (Or.inl ⟨by rfl, ?_⟩) ?_ ?_
                        rotate_left
                        ·intro w'
                         go_simp
                         with_reducible rfl
                        rotate_left
                        ·simp only [Act.put, sA_, sB_, sC_, i64_w, i32_w]
                         rfl
                        refine take_ (i := 3) (N := some 92) (v := ?_) (a' := ?_) L17_34 rfl rfl (take_ofW HT_.out HW_.out (by kernel_rfl)) (fun _ _ _ h => h) (Or.inl ⟨by rfl, ?_⟩) hHeld ?_ ?_
                        rotate_left
                        ·rintro w' ⟨s0, s1, s2, s3, s4, s5⟩
                         go_simp
                         with_reducible rfl
                        rotate_left
                        ·simp only [Act.put, sA_, sB_, sC_, i64_w, i32_w]
                         rfl
                        refine take_ (i := 7) (N := some 96) (v := ?_) (a' := ?_) L17_35 rfl rfl (take_ofW HT_.out HW_.out (by kernel_rfl)) (fun _ _ _ h => h) (Or.inl ⟨by rfl, ?_⟩) hHeld ?_ ?_
                        rotate_left
                        ·rintro w' ⟨s0, s1, s2, s3, s4, s5⟩
                         go_simp
                         with_reducible rfl
                        rotate_left
                        ·simp only [Act.put, sA_, sB_, sC_, i64_w, i32_w]
                         rfl
                        refine one_ (i := 8) (N := some 97) L17_36 rfl rfl (one_of HT_.out (by kernel_rfl)) (by decide) (fun K hK => ?_)
                        refine goes_ Try.func37 (by kernel_rfl) rfl #[.agg #[.int .i64 ((rd_T36 l0 x6_5).f0), .slice A207_1 ((rd_T36 l0 x6_5).f1).length c207_1, .slice A207_2 ((rd_T36 l0 x6_5).f2).length c207_2], .agg #[.int .i64 ((rd_T36 l0 x3_2).f0), .slice A208_1 ((rd_T36 l0 x3_2).f1).length c208_1, .slice A208_2 ((rd_T36 l0 x3_2).f2).length c208_2]] (by rfl) rfl rfl (by (try simp only [List.map_toArray, List.map_cons, List.map_nil]); first | done | rfl | (simp only [List.length_drop, List.length_take]; rfl)) ?_
                        with_reducible refine (fullerref10_like.calls k5 ((rd_T36 l0 x6_5).f0) _ _ ((rd_T36 l0 x6_5).f1) _ _ ((rd_T36 l0 x6_5).f2) ((rd_T36 l0 x3_2).f0) _ _ ((rd_T36 l0 x3_2).f1) _ _ ((rd_T36 l0 x3_2).f2) true _ ?side1 ?side2 ?side3 ?side4 ?side5 ?side6 ?side7 ?side8 A29.out).mono ?_
                        (case side1 => exact mvC_ ((Kd.C_below HR207_1.out HB.out)))
                        (case side2 => exact HC207_1.out)
                        (case side3 => exact mvC_ ((Kd.C_below HR207_2.out HB.out)))
                        (case side4 => exact HC207_2.out)
                        (case side5 => exact mvC_ ((Kd.C_below HR208_1.out HB.out)))
                        (case side6 => exact HC208_1.out)
                        (case side7 => exact mvC_ ((Kd.C_below HR208_2.out HB.out)))
                        (case side8 => exact HC208_2.out)
                        rintro e w32 ⟨rfl, hb⟩
                        refine ⟨_, rfl, ?_⟩
                        have n0_ := Aside0.mk (below_step (bq0_ HB.out) hb)
                        clear HB
                        have HB := n0_
                        clear n0_
                        (try clear hb)
                        (try clear hb2)
                        (try clear hk)
                        (try clear hi)
                        refine hK.out _ _ ⟨((HB.out.cell (World.block_lt_of_cell? w _ hw207_0)).trans hw207_0), ((HB.out.cell (World.block_lt_of_cell? w _ hw207_1)).trans hw207_1), ((HB.out.cell (World.block_lt_of_cell? w _ hw207_2)).trans hw207_2), ((HB.out.cell (World.block_lt_of_cell? w _ hw208_0)).trans hw208_0), ((HB.out.cell (World.block_lt_of_cell? w _ hw208_1)).trans hw208_1), ((HB.out.cell (World.block_lt_of_cell? w _ hw208_2)).trans hw208_2)⟩ (fun hHeld => ?_)
                        clear hK K
                        refine norm_ (a' := ?_) ?_ ?_
                        rotate_left
                        ·show Act.put _ (some 97) _ = _
                         simp only [Act.put, sA_, sB_, sC_, i64_w, i32_w]
                         rfl
                        refine pure_ (i := 9) (N := some 7) (v := ?_) (a' := ?_) L17_37 rfl rfl (any_of HT_.out (by kernel_rfl)) (fun _ _ _ h => h) (Or.inl ⟨by rfl, ?_⟩) ?_ ?_
                        rotate_left
                        ·intro w'
                         go_simp
                         with_reducible rfl
                        rotate_left
                        ·simp only [Act.put, sA_, sB_, sC_, i64_w, i32_w]
                         rfl
                        refine done_ (done_of HT_.out (by kernel_rfl)) ?_
                        try go_wp2
                        go_roundg k5
                        case measure => have := HJ1.out; have := HK2.out; have := HJ7.out; have := HK4.out; have := HK5.out; omega
                        case rel => exact ⟨(wrap64 (x6_5 + 1)), (by first | rfl | (simp; done) | (simp [*]; done)), H', ⟨by have := HJ1.out; have := HK2.out; have := HJ7.out; have := HK4.out; have := HK5.out; omega⟩, ⟨by repeat (first | (with_reducible first | exact HB.out | apply below_alloc | apply pw_below_drewN | apply below_drew1) | exact HB.out)⟩⟩
                       ·replace c30 := Bool.eq_false_iff.mpr c30
                        subst c30
                        have H1 : (some false) = some r := by rw [if_neg (show ¬ (false = true) by decide)] at H; exact H
                        clear H
                        have H := H1
                        clear H1
                        obtain rfl := Option.some.inj H
                        try go_wp2
                        have n0_ := Aside0.mk (below_drew1 HB.out)
                        clear HB
                        have HB := n0_
                        clear n0_
                        have p207 : 0 ≤ (x6_5 : Int) := od_
                        have q207 : x6_5 < (l0.length : Int) := od_
                        obtain ⟨ad207, A207_1, c207_1, A207_2, c207_2, e207, hx207_0, hx207_1, hx207_2, hl207_1, hi207_1, hl207_2, hi207_2⟩ := at_T36 HR0.out x6_5 p207 q207
                        have hw207_2 := hx207_2
                        have hw207_1 := hx207_1
                        have hw207_0 := hx207_0
                        obtain rfl : ad195 = ad207 := (by injection e207)
                        replace hx207_0 := (HB.out.cell (World.block_lt_of_cell? w _ hx207_0)).trans hx207_0
                        replace hx207_1 := (HB.out.cell (World.block_lt_of_cell? w _ hx207_1)).trans hx207_1
                        replace hx207_2 := (HB.out.cell (World.block_lt_of_cell? w _ hx207_2)).trans hx207_2
                        have HR207_1 := Aside0.mk hi207_1
                        have HC207_1 := Aside0.mk hl207_1
                        clear hi207_1 hl207_1
                        have HR207_2 := Aside0.mk hi207_2
                        have HC207_2 := Aside0.mk hl207_2
                        clear hi207_2 hl207_2
                        replace p207 := eq_true p207
                        replace q207 := eq_true q207
                        have p208 : 0 ≤ (x3_2 : Int) := od_
                        have q208 : x3_2 < (l0.length : Int) := od_
                        obtain ⟨ad208, A208_1, c208_1, A208_2, c208_2, e208, hx208_0, hx208_1, hx208_2, hl208_1, hi208_1, hl208_2, hi208_2⟩ := at_T36 HR0.out x3_2 p208 q208
                        have hw208_2 := hx208_2
                        have hw208_1 := hx208_1
                        have hw208_0 := hx208_0
                        obtain rfl : ad195 = ad208 := (by injection e208)
                        replace hx208_0 := (HB.out.cell (World.block_lt_of_cell? w _ hx208_0)).trans hx208_0
                        replace hx208_1 := (HB.out.cell (World.block_lt_of_cell? w _ hx208_1)).trans hx208_1
                        replace hx208_2 := (HB.out.cell (World.block_lt_of_cell? w _ hx208_2)).trans hx208_2
                        have HR208_1 := Aside0.mk hi208_1
                        have HC208_1 := Aside0.mk hl208_1
                        clear hi208_1 hl208_1
                        have HR208_2 := Aside0.mk hi208_2
                        have HC208_2 := Aside0.mk hl208_2
                        clear hi208_2 hl208_2
                        replace p208 := eq_true p208
                        replace q208 := eq_true q208
                        refine start_ (n := 10) (S := fun w' => w'.cell? (ad195.add ((x6_5).toNat * 3)) = some (.int .i64 ((rd_T36 l0 x6_5).f0)) ∧ w'.cell? ⟨(ad195.add ((x6_5).toNat * 3)).block, (ad195.add ((x6_5).toNat * 3)).off + 1, none⟩ = some (.slice A207_1 ((rd_T36 l0 x6_5).f1).length c207_1) ∧ w'.cell? ⟨(ad195.add ((x6_5).toNat * 3)).block, (ad195.add ((x6_5).toNat * 3)).off + 2, none⟩ = some (.slice A207_2 ((rd_T36 l0 x6_5).f2).length c207_2) ∧ w'.cell? (ad195.add ((x3_2).toNat * 3)) = some (.int .i64 ((rd_T36 l0 x3_2).f0)) ∧ w'.cell? ⟨(ad195.add ((x3_2).toNat * 3)).block, (ad195.add ((x3_2).toNat * 3)).off + 1, none⟩ = some (.slice A208_1 ((rd_T36 l0 x3_2).f1).length c208_1) ∧ w'.cell? ⟨(ad195.add ((x3_2).toNat * 3)).block, (ad195.add ((x3_2).toNat * 3)).off + 2, none⟩ = some (.slice A208_2 ((rd_T36 l0 x3_2).f2).length c208_2)) (ds := []) L17_27 (by kernel_rfl) rfl rfl ⟨((HB.out.cell (World.block_lt_of_cell? w _ hw207_0)).trans hw207_0), ((HB.out.cell (World.block_lt_of_cell? w _ hw207_1)).trans hw207_1), ((HB.out.cell (World.block_lt_of_cell? w _ hw207_2)).trans hw207_2), ((HB.out.cell (World.block_lt_of_cell? w _ hw208_0)).trans hw208_0), ((HB.out.cell (World.block_lt_of_cell? w _ hw208_1)).trans hw208_1), ((HB.out.cell (World.block_lt_of_cell? w _ hw208_2)).trans hw208_2)⟩ (fun hHeld => ?_); refine with_tabW fullerref10_Check.tab17 fullerref10_Check.bits17 (fun HT_ HW_ => ?_)
                        generalize wr.drew = w33 at HB HR207_1 HR207_2 HR208_1 HR208_2 hx207_0 hx207_1 hx207_2 hx208_0 hx208_1 hx208_2 hHeld ⊢
                        refine pure_ (i := 0) (N := some 89) (v := ?_) (a' := ?_) L17_28 rfl rfl (any_of HT_.out (by kernel_rfl)) (fun _ _ _ h => h) (Or.inl ⟨by rfl, ?_⟩) ?_ ?_
                        rotate_left
                        ·intro w'
                         go_simp
                         with_reducible rfl
                        rotate_left
                        ·simp only [Act.put, sA_, sB_, sC_, i64_w, i32_w]
                         rfl
                        refine pure_ (i := 1) (N := some 90) (v := ?_) (a' := ?_) L17_29 rfl rfl (any_of HT_.out (by kernel_rfl)) (fun _ _ _ h => h) (Or.inl ⟨by rfl, ?_⟩) ?_ ?_
                        rotate_left
                        ·intro w'
                         go_simp
                         with_reducible rfl
                        rotate_left
                        ·simp only [Act.put, sA_, sB_, sC_, i64_w, i32_w]
                         rfl
                        refine pure_ (i := 2) (N := some 91) (v := ?_) (a' := ?_) L17_30 rfl rfl (any_of HT_.out (by kernel_rfl)) (fun _ _ _ h => h) (Or.inl ⟨by rfl, ?_⟩) ?_ ?_
                        rotate_left
                        ·intro w'
                         go_simp
                         with_reducible rfl
                        rotate_left
                        ·simp only [Act.put, sA_, sB_, sC_, i64_w, i32_w]
                         rfl
                        refine pure_ (i := 4) (N := some 93) (v := ?_) (a' := ?_) L17_31 rfl rfl (any_of HT_.out (by kernel_rfl)) (fun _ _ _ h => h) (Or.inl ⟨by rfl, ?_⟩) ?_ ?_
                        rotate_left
                        ·intro w'
                         go_simp
                         with_reducible rfl
                        rotate_left
                        ·simp only [Act.put, sA_, sB_, sC_, i64_w, i32_w]
                         rfl
                        refine pure_ (i := 5) (N := some 94) (v := ?_) (a' := ?_) L17_32 rfl rfl (any_of HT_.out (by kernel_rfl)) (fun _ _ _ h => h) (Or.inl ⟨by rfl, ?_⟩) ?_ ?_
                        rotate_left
                        ·intro w'
                         go_simp
                         with_reducible rfl
                        rotate_left
                        ·simp only [Act.put, sA_, sB_, sC_, i64_w, i32_w]
                         rfl
                        refine pure_ (i := 6) (N := some 95) (v := ?_) (a' := ?_) L17_33 rfl rfl (any_of HT_.out (by kernel_rfl)) (fun _ _ _ h => h) (Or.inl ⟨by rfl, ?_⟩) ?_ ?_
                        rotate_left
                        ·intro w'
                         go_simp
                         with_reducible rfl
                        rotate_left
                        ·simp only [Act.put, sA_, sB_, sC_, i64_w, i32_w]
                         rfl
                        refine take_ (i := 3) (N := some 92) (v := ?_) (a' := ?_) L17_34 rfl rfl (take_ofW HT_.out HW_.out (by kernel_rfl)) (fun _ _ _ h => h) (Or.inl ⟨by rfl, ?_⟩) hHeld ?_ ?_
                        rotate_left
                        ·rintro w' ⟨s0, s1, s2, s3, s4, s5⟩
                         go_simp
                         with_reducible rfl
                        rotate_left
                        ·simp only [Act.put, sA_, sB_, sC_, i64_w, i32_w]
                         rfl
                        refine take_ (i := 7) (N := some 96) (v := ?_) (a' := ?_) L17_35 rfl rfl (take_ofW HT_.out HW_.out (by kernel_rfl)) (fun _ _ _ h => h) (Or.inl ⟨by rfl, ?_⟩) hHeld ?_ ?_
                        rotate_left
                        ·rintro w' ⟨s0, s1, s2, s3, s4, s5⟩
                         go_simp
                         with_reducible rfl
                        rotate_left
                        ·simp only [Act.put, sA_, sB_, sC_, i64_w, i32_w]
                         rfl
                        refine one_ (i := 8) (N := some 97) L17_36 rfl rfl (one_of HT_.out (by kernel_rfl)) (by decide) (fun K hK => ?_)
                        refine goes_ Try.func37 (by kernel_rfl) rfl #[.agg #[.int .i64 ((rd_T36 l0 x6_5).f0), .slice A207_1 ((rd_T36 l0 x6_5).f1).length c207_1, .slice A207_2 ((rd_T36 l0 x6_5).f2).length c207_2], .agg #[.int .i64 ((rd_T36 l0 x3_2).f0), .slice A208_1 ((rd_T36 l0 x3_2).f1).length c208_1, .slice A208_2 ((rd_T36 l0 x3_2).f2).length c208_2]] (by rfl) rfl rfl (by (try simp only [List.map_toArray, List.map_cons, List.map_nil]); first | done | rfl | (simp only [List.length_drop, List.length_take]; rfl)) ?_
                        with_reducible refine (fullerref10_like.calls k5 ((rd_T36 l0 x6_5).f0) _ _ ((rd_T36 l0 x6_5).f1) _ _ ((rd_T36 l0 x6_5).f2) ((rd_T36 l0 x3_2).f0) _ _ ((rd_T36 l0 x3_2).f1) _ _ ((rd_T36 l0 x3_2).f2) false _ ?side1 ?side2 ?side3 ?side4 ?side5 ?side6 ?side7 ?side8 A29.out).mono ?_
                        (case side1 => exact mvC_ ((Kd.C_below HR207_1.out HB.out)))
                        (case side2 => exact HC207_1.out)
                        (case side3 => exact mvC_ ((Kd.C_below HR207_2.out HB.out)))
                        (case side4 => exact HC207_2.out)
                        (case side5 => exact mvC_ ((Kd.C_below HR208_1.out HB.out)))
                        (case side6 => exact HC208_1.out)
                        (case side7 => exact mvC_ ((Kd.C_below HR208_2.out HB.out)))
                        (case side8 => exact HC208_2.out)
                        rintro e w34 ⟨rfl, hb⟩
                        refine ⟨_, rfl, ?_⟩
                        have n0_ := Aside0.mk (below_step (bq0_ HB.out) hb)
                        clear HB
                        have HB := n0_
                        clear n0_
                        (try clear hb)
                        (try clear hb2)
                        (try clear hk)
                        (try clear hi)
                        refine hK.out _ _ ⟨((HB.out.cell (World.block_lt_of_cell? w _ hw207_0)).trans hw207_0), ((HB.out.cell (World.block_lt_of_cell? w _ hw207_1)).trans hw207_1), ((HB.out.cell (World.block_lt_of_cell? w _ hw207_2)).trans hw207_2), ((HB.out.cell (World.block_lt_of_cell? w _ hw208_0)).trans hw208_0), ((HB.out.cell (World.block_lt_of_cell? w _ hw208_1)).trans hw208_1), ((HB.out.cell (World.block_lt_of_cell? w _ hw208_2)).trans hw208_2)⟩ (fun hHeld => ?_)
                        clear hK K
                        refine norm_ (a' := ?_) ?_ ?_
                        rotate_left
                        ·show Act.put _ (some 97) _ = _
                         simp only [Act.put, sA_, sB_, sC_, i64_w, i32_w]
                         rfl
                        refine pure_ (i := 9) (N := some 7) (v := ?_) (a' := ?_) L17_37 rfl rfl (any_of HT_.out (by kernel_rfl)) (fun _ _ _ h => h) (Or.inl ⟨by rfl, ?_⟩) ?_ ?_
                        rotate_left
                        ·intro w'
                         go_simp
                         with_reducible rfl
                        rotate_left
                        ·simp only [Act.put, sA_, sB_, sC_, i64_w, i32_w]
                         rfl
                        refine done_ (done_of HT_.out (by kernel_rfl)) ?_
                        try go_wp2
                        go_ret
                        exact ⟨by first | rfl | (simp [errW_none, errW_some] <;> rfl) | (simp [*, errW_none, errW_some] <;> rfl), by repeat (first | (with_reducible first | exact HB.out | apply below_alloc | apply pw_below_drewN | apply below_drew1) | exact HB.out)⟩
                      ·rw [if_neg c28] at H
                       exact absurd H (by simp)
                     ·rw [if_neg c27] at H
                      exact absurd H (by simp)
                    ·rw [if_neg c26] at H
                     exact absurd H (by simp)
                   ·rw [if_neg c25] at H
                    exact absurd H (by simp)
                  ·rw [if_neg c24] at H
                   have c24b0 : decide (x6_5 < x3_2) = false := decide_eq_false c24
                   clear c24
                   have H' := Aside0.mk H
                   clear H
                   go_wp2
                   go_roundg k5
                   case measure => have := HJ1.out; have := HK2.out; have := HJ7.out; have := HK4.out; have := HK5.out; omega
                   case rel => exact ⟨(wrap64 (x3_2 + 1)), (by first | rfl | (simp; done) | (simp [*]; done)), H', ⟨by have := HJ1.out; have := HK2.out; have := HJ7.out; have := HK4.out; have := HK5.out; omega⟩, ⟨by repeat (first | (with_reducible first | exact HB.out | apply below_alloc | apply pw_below_drewN | apply below_drew1) | exact HB.out)⟩⟩
              ·rw [if_neg c19] at H
               exact absurd H (by simp)
             ·rw [if_neg c18] at H
              exact absurd H (by simp)
       ·rw [if_neg c6] at H
        exact absurd H (by simp)
      ·rw [if_neg c5] at H
       have c5b0 : decide (x3_2 < (l0.length : Int)) = false := decide_eq_false c5
       clear c5
       obtain rfl := Option.some.inj H
       go_wp2
       go_ret
       exact ⟨by first | rfl | (simp [errW_none, errW_some] <;> rfl) | (simp [*, errW_none, errW_some] <;> rfl), by repeat (first | (with_reducible first | exact HB.out | apply below_alloc | apply pw_below_drewN | apply below_drew1) | exact HB.out)⟩

end Go.Proofs.Ytchmfdaebohplaa.A
