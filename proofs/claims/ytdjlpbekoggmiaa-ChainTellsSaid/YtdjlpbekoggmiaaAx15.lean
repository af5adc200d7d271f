/- Lean functions that answer as the Go functions do, and the proofs that they do; no conditions. Written by this session's own driver: a scratch copy of the kit's print with the session's additions (wip/xprint). -/
import Derived.Test.YtdjlpbekoggmiaaAx0
import Derived.Test.YtdjlpbekoggmiaaAx10
import Derived.Test.YtdjlpbekoggmiaaAx14
namespace Go.Proofs.Ytdjlpbekoggmiaa.A
open Go.RowKit Go.Proofs.YtdjlpbekoggmiaaW.PrintWords Go.Proofs.YtdjlpbekoggmiaaW.PrintLast Go.Proofs.YtdjlpbekoggmiaaW.PrintMore
attribute [local go_sem] max2_int min2_int max_two min_two max_three min_three max_four min_four   -- for this text's walks alone
set_option linter.unusedVariables false
set_option linter.unusedSimpArgs false

def L18_0 : Array Bool := #[false, false, false, false, false, false, false, false, false, false, false, false, false, false, false, false, false, false, false, false, false, false, false, false, false, false, false, false, false, false, false, false, false, false, false, false, false, false, false, false, false, false, false]
def L18_1 : Array Bool := #[true, false, false, false, false, false, false, false, false, false, false, false, false, false, false, false, false, false, false, false, false, false, false, false, false, false, false, false, false, false, false, false, false, false, false, false, false, false, false, false, false, false, false]
def L18_2 : Array Bool := #[true, true, false, false, false, false, false, false, false, false, false, false, false, false, false, false, false, false, false, false, false, false, false, false, false, false, false, false, false, false, false, false, false, false, false, false, false, false, false, false, false, false, false]
def L18_3 : Array Bool := #[true, true, true, false, false, false, false, false, false, false, false, false, false, false, false, false, false, false, false, false, false, false, false, false, false, false, false, false, false, false, false, false, false, false, false, false, false, false, false, false, false, false, false]
def L18_4 : Array Bool := #[true, true, true, true, false, false, false, false, false, false, false, false, false, false, false, false, false, false, false, false, false, false, false, false, false, false, false, false, false, false, false, false, false, false, false, false, false, false, false, false, false, false, false]
def L18_5 : Array Bool := #[true, true, true, true, true, false, false, false, false, false, false, false, false, false, false, false, false, false, false, false, false, false, false, false, false, false, false, false, false, false, false, false, false, false, false, false, false, false, false, false, false, false, false]
def L18_6 : Array Bool := #[true, true, true, true, true, true, false, false, false, false, false, false, false, false, false, false, false, false, false, false, false, false, false, false, false, false, false, false, false, false, false, false, false, false, false, false, false, false, false, false, false, false, false]
def L18_7 : Array Bool := #[true, true, true, true, true, true, true, false, false, false, false, false, false, false, false, false, false, false, false, false, false, false, false, false, false, false, false, false, false, false, false, false, false, false, false, false, false, false, false, false, false, false, false]
def L18_8 : Array Bool := #[true, true, true, true, true, true, true, true, false, false, false, false, false, false, false, false, false, false, false, false, false, false, false, false, false, false, false, false, false, false, false, false, false, false, false, false, false, false, false, false, false, false, false]
def L18_9 : Array Bool := #[true, true, true, true, true, true, true, true, true, false, false, false, false, false, false, false, false, false, false, false, false, false, false, false, false, false, false, false, false, false, false, false, false, false, false, false, false, false, false, false, false, false, false]
def L18_10 : Array Bool := #[true, true, true, true, true, true, true, true, true, true, false, false, false, false, false, false, false, false, false, false, false, false, false, false, false, false, false, false, false, false, false, false, false, false, false, false, false, false, false, false, false, false, false]
def L18_11 : Array Bool := #[true, true, true, true, true, true, true, true, true, true, true, false, false, false, false, false, false, false, false, false, false, false, false, false, false, false, false, false, false, false, false, false, false, false, false, false, false, false, false, false, false, false, false]
def L18_12 : Array Bool := #[true, true, true, true, true, true, true, true, true, true, true, true, true, true, true, true, true, true, true, true, true, true, true, true, true, true, true, true, true, true, true, true, true, true, true, true, true, true, true, true, true, true, false]
def L18_13 : Array Bool := #[true, true, true, true, true, true, true, true, true, true, true, true, true, true, true, true, true, true, true, true, true, true, true, true, true, true, true, true, true, true, true, true, true, true, true, true, true, true, true, true, true, true, true]
def L18_14 : Array Bool := #[true, true, true, true, true, true, true, true, true, true, true, true, false, false, false, false, false, false, false, false, false, false, false, false, false, false, false, false, false, false, false, false, false, false, false, false, false, false, false, false, false, false, false]
def L18_15 : Array Bool := #[true, true, true, true, true, true, true, true, true, true, true, true, true, false, false, false, false, false, false, false, false, false, false, false, false, false, false, false, false, false, false, false, false, false, false, false, false, false, false, false, false, false, false]
def L18_16 : Array Bool := #[true, true, true, true, true, true, true, true, true, true, true, true, true, true, false, false, false, false, false, false, false, false, false, false, false, false, false, false, false, false, false, false, false, false, false, false, false, false, false, false, false, false, false]
def L18_17 : Array Bool := #[true, true, true, true, true, true, true, true, true, true, true, true, true, true, true, false, false, false, false, false, false, false, false, false, false, false, false, false, false, false, false, false, false, false, false, false, false, false, false, false, false, false, false]
def L18_18 : Array Bool := #[true, true, true, true, true, true, true, true, true, true, true, true, true, true, true, true, false, false, false, false, false, false, false, false, false, false, false, false, false, false, false, false, false, false, false, false, false, false, false, false, false, false, false]
def L18_19 : Array Bool := #[true, true, true, true, true, true, true, true, true, true, true, true, true, true, true, true, true, false, false, false, false, false, false, false, false, false, false, false, false, false, false, false, false, false, false, false, false, false, false, false, false, false, false]
def L18_20 : Array Bool := #[true, true, true, true, true, true, true, true, true, true, true, true, true, true, true, true, true, true, false, false, false, false, false, false, false, false, false, false, false, false, false, false, false, false, false, false, false, false, false, false, false, false, false]
def L18_21 : Array Bool := #[true, true, true, true, true, true, true, true, true, true, true, true, true, true, true, true, true, true, false, true, false, false, false, false, false, false, false, false, false, false, false, false, false, false, false, false, false, false, false, false, false, false, false]
def L18_22 : Array Bool := #[true, true, true, true, true, true, true, true, true, true, true, true, true, true, true, true, true, true, false, true, true, false, false, false, false, false, false, false, false, false, false, false, false, false, false, false, false, false, false, false, false, false, false]
def L18_23 : Array Bool := #[true, true, true, true, true, true, true, true, true, true, true, true, true, true, true, true, true, true, false, true, true, true, false, false, false, false, false, false, false, false, false, false, false, false, false, false, false, false, false, false, false, false, false]
def L18_24 : Array Bool := #[true, true, true, true, true, true, true, true, true, true, true, true, true, true, true, true, true, true, false, true, true, true, true, false, false, false, false, false, false, false, false, false, false, false, false, false, false, false, false, false, false, false, false]
def L18_25 : Array Bool := #[true, true, true, true, true, true, true, true, true, true, true, true, true, true, true, true, true, true, false, true, true, true, true, true, false, false, false, false, false, false, false, false, false, false, false, false, false, false, false, false, false, false, false]
def L18_26 : Array Bool := #[true, true, true, true, true, true, true, true, true, true, true, true, true, true, true, true, true, true, true, true, true, true, true, true, false, false, false, false, false, false, false, false, false, false, false, false, false, false, false, false, false, false, false]
def L18_27 : Array Bool := #[true, true, true, true, true, true, true, true, true, true, true, true, true, true, true, true, true, true, true, true, true, true, true, true, true, false, false, false, false, false, false, false, false, false, false, false, false, false, false, false, false, false, false]
def L18_28 : Array Bool := #[true, true, true, true, true, true, true, true, true, true, true, true, true, true, true, true, true, true, true, true, true, true, true, true, true, true, false, false, false, false, false, false, false, false, false, false, false, false, false, false, false, false, false]
def L18_29 : Array Bool := #[true, true, true, true, true, true, true, true, true, true, true, true, true, true, true, true, true, true, true, true, true, true, true, true, true, true, true, false, false, false, false, false, false, false, false, false, false, false, false, false, false, false, false]
def L18_30 : Array Bool := #[true, true, true, true, true, true, true, true, true, true, true, true, true, true, true, true, true, true, true, true, true, true, true, true, true, true, true, true, true, true, true, true, true, true, true, true, true, true, true, true, false, false, false]
def L18_31 : Array Bool := #[true, true, true, true, true, true, true, true, true, true, true, true, true, true, true, true, true, true, true, true, true, true, true, true, true, true, true, true, true, true, true, true, true, true, true, true, true, true, true, true, true, false, false]
def L18_32 : Array Bool := #[true, true, true, true, true, true, true, true, true, true, true, true, true, true, true, true, true, true, true, true, true, true, true, true, true, true, true, true, false, false, false, false, false, false, false, false, false, false, false, false, false, false, false]
def L18_33 : Array Bool := #[true, true, true, true, true, true, true, true, true, true, true, true, true, true, true, true, true, true, true, true, true, true, true, true, true, true, true, true, true, false, false, false, false, false, false, false, false, false, false, false, false, false, false]
def L18_34 : Array Bool := #[true, true, true, true, true, true, true, true, true, true, true, true, true, true, true, true, true, true, true, true, true, true, true, true, true, true, true, true, true, true, false, false, false, false, false, false, false, false, false, false, false, false, false]
def L18_35 : Array Bool := #[true, true, true, true, true, true, true, true, true, true, true, true, true, true, true, true, true, true, true, true, true, true, true, true, true, true, true, true, true, true, true, false, false, false, false, false, false, false, false, false, false, false, false]
def L18_36 : Array Bool := #[true, true, true, true, true, true, true, true, true, true, true, true, true, true, true, true, true, true, true, true, true, true, true, true, true, true, true, true, true, true, true, true, false, false, false, false, false, false, false, false, false, false, false]
def L18_37 : Array Bool := #[true, true, true, true, true, true, true, true, true, true, true, true, true, true, true, true, true, true, true, true, true, true, true, true, true, true, true, true, true, true, true, true, false, true, false, false, false, false, false, false, false, false, false]
def L18_38 : Array Bool := #[true, true, true, true, true, true, true, true, true, true, true, true, true, true, true, true, true, true, true, true, true, true, true, true, true, true, true, true, true, true, true, true, false, true, true, false, false, false, false, false, false, false, false]
def L18_39 : Array Bool := #[true, true, true, true, true, true, true, true, true, true, true, true, true, true, true, true, true, true, true, true, true, true, true, true, true, true, true, true, true, true, true, true, false, true, true, true, false, false, false, false, false, false, false]
def L18_40 : Array Bool := #[true, true, true, true, true, true, true, true, true, true, true, true, true, true, true, true, true, true, true, true, true, true, true, true, true, true, true, true, true, true, true, true, false, true, true, true, true, false, false, false, false, false, false]
def L18_41 : Array Bool := #[true, true, true, true, true, true, true, true, true, true, true, true, true, true, true, true, true, true, true, true, true, true, true, true, true, true, true, true, true, true, true, true, true, true, true, true, true, false, false, false, false, false, false]
def L18_42 : Array Bool := #[true, true, true, true, true, true, true, true, true, true, true, true, true, true, true, true, true, true, true, true, true, true, true, true, true, true, true, true, true, true, true, true, true, true, true, true, true, true, false, false, false, false, false]
def L18_43 : Array Bool := #[true, true, true, true, true, true, true, true, true, true, true, true, true, true, true, true, true, true, true, true, true, true, true, true, true, true, true, true, true, true, true, true, true, true, true, true, true, true, true, false, false, false, false]
/-! ### fullerref17_Check: function 18 -/
def fullerref17_Check.l0 : Nat → List (S41) → Int → Option (Bool)
 | 0, _, _ => none
 | k + 1, x0, x3 => if x3 < (x0.length : Int) then (if 0 ≤ x3 then ((fullerref03_Check.f k ((rd_T41 x0 x3).f1.f0) ((rd_T41 x0 x3).f1.f1)).bind fun t239 => (if t239 = true then (if ((rd_T41 x0 x3).f0) < 0 then (some false) else (if x3 > 0 then (if 0 ≤ (wrap64 (x3 - 1)) then (if (wrap64 (x3 - 1)) < (x0.length : Int) then (if ((rd_T41 x0 x3).f0) ≤ ((rd_T41 x0 (wrap64 (x3 - 1))).f0) then (some false) else (if 0 < (x0.length : Int) then ((fullerref02_Same.f k ((rd_T41 x0 x3).f1.f0) ((rd_T41 x0 0).f1.f0)).bind fun t245 => (if t245 = true then (fullerref17_Check.l0 k x0 (wrap64 (x3 + 1))) else (some false))) else (none))) else (none)) else (none)) else (fullerref17_Check.l0 k x0 (wrap64 (x3 + 1))))) else (some false))) else (none)) else (some (decide ((x0.length : Int) ≤ 16)))
def fullerref17_Check.f (k : Nat) (l0 : List (S41)) : Option (Bool) := fullerref17_Check.l0 k l0 0
theorem fullerref17_Check.mono_l : ∀ k, (∀ y0 y1, LeO (fullerref17_Check.l0 k y0 y1) (fullerref17_Check.l0 (k + 1) y0 y1))
 | 0 => fun _ _ r h => by simp [fullerref17_Check.l0] at h
 | k + 1 => by
  have ih0 := fullerref17_Check.mono_l k
  ·intro y0 y1
   unfold fullerref17_Check.l0
   repeat' first
   | (with_reducible exact ih0 _ _)
   | (with_reducible exact fullerref02_Same.mono _ _ _)
   | (with_reducible exact fullerref03_Check.mono _ _ _)
   | (with_reducible exact LeO.refl _)
   | (with_reducible exact LeO.none _)
   | (with_reducible refine LeO.ite ?_ ?_)
   | (with_reducible refine LeO.bind ?_ (fun _ => ?_))
   | exact ih0 _ _
   | exact fullerref02_Same.mono _ _ _
   | exact fullerref03_Check.mono _ _ _
   | exact LeO.none _
   | refine LeO.ite ?_ ?_
   | refine LeO.bind ?_ (fun _ => ?_)
theorem fullerref17_Check.mono : ∀ a0 k, LeO (fullerref17_Check.f k a0) (fullerref17_Check.f (k + 1) a0) := by
 intro a0 k
 have ih0 := fullerref17_Check.mono_l k
 unfold fullerref17_Check.f
 repeat' first
   | (with_reducible exact ih0 _ _)
   | (with_reducible exact fullerref02_Same.mono _ _ _)
   | (with_reducible exact fullerref03_Check.mono _ _ _)
   | (with_reducible exact LeO.refl _)
   | (with_reducible exact LeO.none _)
   | (with_reducible refine LeO.ite ?_ ?_)
   | (with_reducible refine LeO.bind ?_ (fun _ => ?_))
   | exact ih0 _ _
   | exact fullerref02_Same.mono _ _ _
   | exact fullerref03_Check.mono _ _ _
   | exact LeO.none _
   | refine LeO.ite ?_ ?_
   | refine LeO.bind ?_ (fun _ => ?_)
def fullerref17_Check.T5 : Bool × List (List Nat × List Nat) := (true, [([], []), ([0], [0]), ([1], [1]), ([2], [2]), ([2], [2]), ([3, 4, 2], [2, 3, 4]), ([5, 2], [2, 5]), ([6, 2], [2, 6]), ([7, 2], [2, 7]), ([2, 8], [2, 8]), ([9, 2], [9]), ([10], [10]), ([11, 10], [10, 11]), ([12, 10, 10], [10, 12]), ([13], [13]), ([13], [13]), ([14, 15, 13], [13, 14, 15]), ([16, 13], [13, 16]), ([17, 13], [13, 17]), ([13], [13]), ([13], [13]), ([20, 13], [13, 20]), ([19, 21, 13], [13, 19, 21]), ([22, 13], [13, 22]), ([23, 13], [13, 23]), ([18, 24, 13], [13, 18, 24]), ([25, 13, 13], [13, 25]), ([26], [26]), ([26], [26]), ([27, 28, 26], [26, 27, 28]), ([29, 26], [26, 29]), ([30, 26], [26, 30]), ([31, 26], [26, 31]), ([26], [26]), ([33, 26], [26, 33]), ([34, 26], [26, 34]), ([35, 26], [26, 35]), ([36, 26], [26, 36]), ([32, 37, 26, 26], [26, 32, 37]), ([38, 26], [26, 38]), ([26, 39, 13], [13, 26, 39]), ([13, 40, 10], [10, 13, 40]), ([10, 41], [10, 41])])
def fullerref17_Check.B5 : List Nat := [0, 1, 3, 7, 7, 31, 63, 127, 255, 511, 1023, 2047, 4095, 8191, 16383, 16383, 65535, 131071, 262143, 16383, 16383, 1064959, 3686399, 7880703, 16269311, 33554431, 67108863, 134217727, 134217727, 536870911, 1073741823, 2147483647, 4294967295, 134217727, 8724152319, 25904021503, 60263759871, 128983236607, 274877906943, 549755813887, 1099511627775, 2199023255551, 4398046511103]
theorem fullerref17_Check.tab5 : rtab .any (opsOf Try.f18 5) = fullerref17_Check.T5 := by kernel_rfl
theorem fullerref17_Check.bits5 : waitsOk fullerref17_Check.T5.2 fullerref17_Check.B5 = true := by kernel_rfl
set_option maxHeartbeats 8000000 in
set_option maxRecDepth 100000 in
theorem fullerref17_Check.calls (k : Nat) (A0 : Option Addr) (c0 : Nat) (l0 : List (S41)) (r : Bool) (w : World) (hr0 : Kd.C k41 w A0 l0.length l0) (hc0 : l0.length ≤ c0) (h : fullerref17_Check.f k l0 = some r) :
  Calls Try.prog 18 #[.slice A0 l0.length c0] w fun e w' => e = .returned (.bool r) ∧ Below w.heap.size w w' := by
 have hu25 := Try.underlying25
 have HR0 := Aside0.mk hr0
 have HC0 := Aside0.mk hc0
 clear hr0 hc0
 have HB := Aside0.mk (Below.refl w.heap.size w)
 have H : (fullerref17_Check.l0 k l0 0) = some r := h
 clear h
 have H' := Aside0.mk H
 clear H
 go_enter Try.func18, Try.ntmps18
 go_wp2
 go_loopg [3] k (fun kq v3 w' => ∃ (x3_1 : Int), v3 = .int .i64 x3_1 ∧ Aside0 (fullerref17_Check.l0 kq l0 x3_1 = some r) ∧ Aside0 (kq ≤ k) ∧ Aside0 (Below w.heap.size w w'))
 case atStart => exact ⟨(0), (by first | rfl | (simp; done) | (simp [*]; done)), H', ⟨Nat.le_refl _⟩, ⟨by repeat (first | (with_reducible first | exact HB.out | apply below_alloc | apply pw_below_drewN | apply below_drew1) | exact HB.out)⟩⟩
 case round =>
  clear H'
  try clear c1
  obtain ⟨x3_1, rfl, HA, HK1, HB⟩ := hrel
  cases gk with
  | zero => exact absurd HA.out (by simp [fullerref17_Check.l0])
  | succ k1 =>
   have H := HA.out
   clear HA
   simp only [fullerref17_Check.l0] at H
   by_cases c2 : x3_1 < (l0.length : Int)
   ·rw [if_pos c2] at H
    have c2b0 : decide (x3_1 < (l0.length : Int)) = true := decide_eq_true c2
    clear c2
    by_cases c3 : 0 ≤ x3_1
    ·rw [if_pos c3] at H
     have c3b0 : decide (0 ≤ x3_1) = true := decide_eq_true c3
     clear c3
     replace H := Option.bind_eq_some_iff.mp H
     obtain ⟨t239, A40, H⟩ := H
     replace H : (if t239 = true then (if ((rd_T41 l0 x3_1).f0) < 0 then (some false) else (if x3_1 > 0 then (if 0 ≤ (wrap64 (x3_1 - 1)) then (if (wrap64 (x3_1 - 1)) < (l0.length : Int) then (if ((rd_T41 l0 x3_1).f0) ≤ ((rd_T41 l0 (wrap64 (x3_1 - 1))).f0) then (some false) else (if 0 < (l0.length : Int) then ((fullerref02_Same.f k1 ((rd_T41 l0 x3_1).f1.f0) ((rd_T41 l0 0).f1.f0)).bind fun t245 => (if t245 = true then (fullerref17_Check.l0 k1 l0 (wrap64 (x3_1 + 1))) else (some false))) else (none))) else (none)) else (none)) else (fullerref17_Check.l0 k1 l0 (wrap64 (x3_1 + 1))))) else (some false)) = some r := H
     have A4 := Aside0.mk A40
     clear A40
     by_cases c5 : t239 = true
     ·subst c5
      have H1 : (if ((rd_T41 l0 x3_1).f0) < 0 then (some false) else (if x3_1 > 0 then (if 0 ≤ (wrap64 (x3_1 - 1)) then (if (wrap64 (x3_1 - 1)) < (l0.length : Int) then (if ((rd_T41 l0 x3_1).f0) ≤ ((rd_T41 l0 (wrap64 (x3_1 - 1))).f0) then (some false) else (if 0 < (l0.length : Int) then ((fullerref02_Same.f k1 ((rd_T41 l0 x3_1).f1.f0) ((rd_T41 l0 0).f1.f0)).bind fun t245 => (if t245 = true then (fullerref17_Check.l0 k1 l0 (wrap64 (x3_1 + 1))) else (some false))) else (none))) else (none)) else (none)) else (fullerref17_Check.l0 k1 l0 (wrap64 (x3_1 + 1))))) = some r := by rw [if_pos rfl] at H; exact H
      clear H
      have H := H1
      clear H1
      by_cases c6 : ((rd_T41 l0 x3_1).f0) < 0
      ·rw [if_pos c6] at H
       have c6b0 : decide (((rd_T41 l0 x3_1).f0) < 0) = true := decide_eq_true c6
       clear c6
       obtain rfl := Option.some.inj H
       have p238 : 0 ≤ (x3_1 : Int) := of_decide_eq_true (by first | (with_reducible assumption) | assumption)
       have q238 : x3_1 < (l0.length : Int) := of_decide_eq_true (by first | (with_reducible assumption) | assumption)
       obtain ⟨ad238, A238_1, c238_1, A238_2, c238_2, e238, hx238_0, hx238_1, hx238_2, hl238_1, hi238_1, hl238_2, hi238_2⟩ := at_T41 HR0.out x3_1 p238 q238
       cases e238
       replace hx238_0 := (HB.out.cell (World.block_lt_of_cell? w _ hx238_0)).trans hx238_0
       replace hx238_1 := (HB.out.cell (World.block_lt_of_cell? w _ hx238_1)).trans hx238_1
       replace hx238_2 := (HB.out.cell (World.block_lt_of_cell? w _ hx238_2)).trans hx238_2
       have HR238_1 := Aside0.mk hi238_1
       have HC238_1 := Aside0.mk hl238_1
       clear hi238_1 hl238_1
       have HR238_2 := Aside0.mk hi238_2
       have HC238_2 := Aside0.mk hl238_2
       clear hi238_2 hl238_2
       replace p238 := eq_true p238
       replace q238 := eq_true q238
       try go_wp2_with (first | ((with_reducible refine gate_callee (f := 30) rfl ?_); refine goesL_ (some 16) rfl rfl Try.func30 (by kernel_rfl) rfl #[.agg #[.slice A238_1 ((rd_T41 l0 x3_1).f1.f0).length c238_1, .slice A238_2 ((rd_T41 l0 x3_1).f1.f1).length c238_2]] rfl (by (try simp only [List.map_toArray, List.map_cons, List.map_nil]); first | done | rfl | (simp only [List.length_drop, List.length_take]; rfl)) ?_; (with_reducible refine (fullerref03_Check.calls k1 _ _ ((rd_T41 l0 x3_1).f1.f0) _ _ ((rd_T41 l0 x3_1).f1.f1) true _ ?side1 ?side2 ?side3 ?side4 A4.out).mono ?_); (case side1 => repeat (first | exact (Kd.C_below HR238_1.out HB.out) | (with_reducible refine Kd.C_alloc ?_ _) | (with_reducible refine Kd.C_drewN ?_ _) | (with_reducible refine Kd.C_drew ?_))); (case side2 => exact HC238_1.out); (case side3 => repeat (first | exact (Kd.C_below HR238_2.out HB.out) | (with_reducible refine Kd.C_alloc ?_ _) | (with_reducible refine Kd.C_drewN ?_ _) | (with_reducible refine Kd.C_drew ?_))); (case side4 => exact HC238_2.out); rintro e w7 ⟨rfl, hb⟩; refine ⟨_, rfl, ?_⟩; have n0_ := Aside0.mk (below_step (bq0_ HB.out) hb); clear HB; have HB := n0_; clear n0_; (try clear hb); (try clear hb2); (try clear hk); (try clear hi)))
       have n0_ := Aside0.mk (below_drew1 HB.out)
       clear HB
       have HB := n0_
       clear n0_
       have p240 : 0 ≤ (x3_1 : Int) := of_decide_eq_true (by first | (with_reducible assumption) | assumption)
       have q240 : x3_1 < (l0.length : Int) := of_decide_eq_true (by first | (with_reducible assumption) | assumption)
       obtain ⟨ad240, A240_1, c240_1, A240_2, c240_2, e240, hx240_0, hx240_1, hx240_2, hl240_1, hi240_1, hl240_2, hi240_2⟩ := at_T41 HR0.out x3_1 p240 q240
       have hw240_2 := hx240_2
       have hw240_1 := hx240_1
       have hw240_0 := hx240_0
       obtain rfl : ad238 = ad240 := (by injection e240)
       replace hx240_0 := (HB.out.cell (World.block_lt_of_cell? w _ hx240_0)).trans hx240_0
       replace hx240_1 := (HB.out.cell (World.block_lt_of_cell? w _ hx240_1)).trans hx240_1
       replace hx240_2 := (HB.out.cell (World.block_lt_of_cell? w _ hx240_2)).trans hx240_2
       have HR240_1 := Aside0.mk hi240_1
       have HC240_1 := Aside0.mk hl240_1
       clear hi240_1 hl240_1
       have HR240_2 := Aside0.mk hi240_2
       have HC240_2 := Aside0.mk hl240_2
       clear hi240_2 hl240_2
       replace p240 := eq_true p240
       replace q240 := eq_true q240
       refine start_ (n := 43) (S := fun w' => w'.cell? (ad238.add ((x3_1).toNat * 3)) = some (.int .i64 ((rd_T41 l0 x3_1).f0)) ∧ w'.cell? ⟨(ad238.add ((x3_1).toNat * 3)).block, (ad238.add ((x3_1).toNat * 3)).off + 1, none⟩ = some (.slice A240_1 ((rd_T41 l0 x3_1).f1.f0).length c240_1) ∧ w'.cell? ⟨(ad238.add ((x3_1).toNat * 3)).block, (ad238.add ((x3_1).toNat * 3)).off + 2, none⟩ = some (.slice A240_2 ((rd_T41 l0 x3_1).f1.f1).length c240_2)) (ds := []) L18_0 (by kernel_rfl) rfl rfl ⟨((HB.out.cell (World.block_lt_of_cell? w _ hw240_0)).trans hw240_0), ((HB.out.cell (World.block_lt_of_cell? w _ hw240_1)).trans hw240_1), ((HB.out.cell (World.block_lt_of_cell? w _ hw240_2)).trans hw240_2)⟩ (fun hHeld => ?_); refine with_tabW fullerref17_Check.tab5 fullerref17_Check.bits5 (fun HT_ HW_ => ?_)
       generalize w7.drew = w8 at HB HR240_1 HR240_2 hx240_0 hx240_1 hx240_2 hHeld ⊢
       refine pure_ (i := 0) (N := some 17) (v := ?_) (a' := ?_) L18_1 rfl rfl (any_of HT_.out (by kernel_rfl)) (fun _ _ _ h => h) (Or.inl ⟨by rfl, ?_⟩) ?_ ?_
       rotate_left
       ·intro w'
        go_simp
        with_reducible rfl
       rotate_left
       ·simp only [Act.put, sA_, sB_, sC_, i64_w, i32_w]
        rfl
       refine pure_ (i := 1) (N := some 18) (v := ?_) (a' := ?_) L18_2 rfl rfl (any_of HT_.out (by kernel_rfl)) (fun _ _ _ h => h) (Or.inl ⟨by rfl, ?_⟩) ?_ ?_
       rotate_left
       ·intro w'
        go_simp
        with_reducible rfl
       rotate_left
       ·simp only [Act.put, sA_, sB_, sC_, i64_w, i32_w]
        rfl
       refine pure_ (i := 2) (N := some 19) (v := ?_) (a' := ?_) L18_3 rfl rfl (any_of HT_.out (by kernel_rfl)) (fun _ _ _ h => h) (Or.inl ⟨by rfl, ?_⟩) ?_ ?_
       rotate_left
       ·intro w'
        go_simp
        with_reducible rfl
       rotate_left
       ·simp only [Act.put, sA_, sB_, sC_, i64_w, i32_w]
        rfl
       refine pure_ (i := 3) (N := some 20) (v := ?_) (a' := ?_) L18_4 rfl rfl (any_of HT_.out (by kernel_rfl)) (fun _ _ _ h => h) (Or.inl ⟨by rfl, ?_⟩) ?_ ?_
       rotate_left
       ·intro w'
        go_simp
        with_reducible rfl
       rotate_left
       ·simp only [Act.put, sA_, sB_, sC_, i64_w, i32_w]
        rfl
       refine pure_ (i := 4) (N := some 21) (v := ?_) (a' := ?_) L18_5 rfl rfl (any_of HT_.out (by kernel_rfl)) (fun _ _ _ h => h) (Or.inl ⟨by rfl, ?_⟩) ?_ ?_
       rotate_left
       ·intro w'
        go_simp
        with_reducible rfl
       rotate_left
       ·simp only [Act.put, sA_, sB_, sC_, i64_w, i32_w]
        rfl
       refine pure_ (i := 5) (N := some 22) (v := ?_) (a' := ?_) L18_6 rfl rfl (any_of HT_.out (by kernel_rfl)) (fun _ _ _ h => h) (Or.inl ⟨by rfl, ?_⟩) ?_ ?_
       rotate_left
       ·intro w'
        go_simp
        with_reducible rfl
       rotate_left
       ·simp only [Act.put, sA_, sB_, sC_, i64_w, i32_w]
        rfl
       refine pure_ (i := 6) (N := some 23) (v := ?_) (a' := ?_) L18_7 rfl rfl (any_of HT_.out (by kernel_rfl)) (fun _ _ _ h => h) (Or.inl ⟨by rfl, ?_⟩) ?_ ?_
       rotate_left
       ·intro w'
        go_simp
        with_reducible rfl
       rotate_left
       ·simp only [Act.put, sA_, sB_, sC_, i64_w, i32_w]
        rfl
       refine take_ (i := 7) (N := some 24) (v := ?_) (a' := ?_) L18_8 rfl rfl (take_ofW HT_.out HW_.out (by kernel_rfl)) (fun _ _ _ h => h) (Or.inl ⟨by rfl, ?_⟩) hHeld ?_ ?_
       rotate_left
       ·rintro w' ⟨s0, s1, s2⟩
        go_simp
        with_reducible rfl
       rotate_left
       ·simp only [Act.put, sA_, sB_, sC_, i64_w, i32_w]
        rfl
       refine pure_ (i := 8) (N := some 25) (v := ?_) (a' := ?_) L18_9 rfl rfl (any_of HT_.out (by kernel_rfl)) (fun _ _ _ h => h) (Or.inl ⟨by rfl, ?_⟩) ?_ ?_
       rotate_left
       ·intro w'
        go_simp
        with_reducible rfl
       rotate_left
       ·simp only [Act.put, sA_, sB_, sC_, i64_w, i32_w]
        rfl
       refine pure_ (i := 9) (N := some 26) (v := ?_) (a' := ?_) L18_10 rfl rfl (any_of HT_.out (by kernel_rfl)) (fun _ _ _ h => h) (Or.inl ⟨by rfl, ?_⟩) ?_ ?_
       rotate_left
       ·intro w'
        go_simp
        with_reducible rfl
       rotate_left
       ·simp only [Act.put, sA_, sB_, sC_, i64_w, i32_w]
        rfl
       refine pure_ (i := 10) (N := some 27) (v := ?_) (a' := ?_) L18_11 rfl rfl (any_of HT_.out (by kernel_rfl)) (fun _ _ _ h => h) (Or.inl ⟨by rfl, ?_⟩) ?_ ?_
       rotate_left
       ·intro w'
        go_simp
        with_reducible rfl
       rotate_left
       ·simp only [Act.put, sA_, sB_, sC_, i64_w, i32_w]
        rfl
       refine skips_ (fuel := 1) (m := 32) HT_.out (fun _ _ _ _ _ h => h) [(11, 28), (12, 29), (13, 30), (14, 31), (15, 32), (16, 33), (17, 34), (18, 35), (19, 36), (20, 37), (21, 38), (22, 39), (23, 40), (24, 41), (25, 42), (26, 43), (27, 44), (28, 45), (29, 46), (30, 47), (31, 48), (32, 49), (33, 50), (34, 51), (35, 52), (36, 53), (37, 54), (38, 55), (39, 56), (40, 57), (41, 58)] L18_12 rfl (by kernel_rfl) (by kernel_rfl) (a' := ?_) ?_ ?_
       rotate_left
       ·simp only [putU, Act.put, sA_, sB_, sC_]
        rfl
       refine pure_ (i := 42) (N := some 59) (v := ?_) (a' := ?_) L18_13 rfl rfl (any_of HT_.out (by kernel_rfl)) (fun _ _ _ h => h) (Or.inl ⟨by rfl, ?_⟩) ?_ ?_
       rotate_left
       ·intro w'
        go_simp
        with_reducible rfl
       rotate_left
       ·simp only [Act.put, sA_, sB_, sC_, i64_w, i32_w]
        rfl
       refine done_ (done_of HT_.out (by kernel_rfl)) ?_
       try go_wp2
       go_ret
       exact ⟨by first | rfl | (simp [errW_none, errW_some] <;> rfl) | (simp [*, errW_none, errW_some] <;> rfl), by repeat (first | (with_reducible first | exact HB.out | apply below_alloc | apply pw_below_drewN | apply below_drew1) | exact HB.out)⟩
      ·rw [if_neg c6] at H
       have c6b0 : decide (((rd_T41 l0 x3_1).f0) < 0) = false := decide_eq_false c6
       clear c6
       by_cases c9 : x3_1 > 0
       ·rw [if_pos c9] at H
        have c9b0 : decide (0 < x3_1) = true := decide_eq_true c9
        clear c9
        obtain ⟨ji10, hji10⟩ : ∃ j_ : Int, (wrap64 (x3_1 - 1)) = j_ := ⟨_, rfl⟩
        replace H : (if 0 ≤ (ji10) then (if (ji10) < (l0.length : Int) then (if ((rd_T41 l0 x3_1).f0) ≤ ((rd_T41 l0 (ji10)).f0) then (some false) else (if 0 < (l0.length : Int) then ((fullerref02_Same.f k1 ((rd_T41 l0 x3_1).f1.f0) ((rd_T41 l0 0).f1.f0)).bind fun t245 => (if t245 = true then (fullerref17_Check.l0 k1 l0 (wrap64 (x3_1 + 1))) else (some false))) else (none))) else (none)) else (none)) = some r := by first | (rw [hji10] at H; exact H) | (simp only [hji10] at H ⊢; exact H)
        (try rw [hji10] at A4)
        have hji10w : (IntKind.i64.wrap (x3_1 - 1)) = ji10 := (i64_w _).trans hji10
        by_cases c11 : 0 ≤ (ji10)
        ·rw [if_pos c11] at H
         have c11b0 : decide (0 ≤ (ji10)) = true := decide_eq_true c11
         clear c11
         by_cases c12 : (ji10) < (l0.length : Int)
         ·rw [if_pos c12] at H
          have c12b0 : decide ((ji10) < (l0.length : Int)) = true := decide_eq_true c12
          clear c12
          by_cases c13 : ((rd_T41 l0 x3_1).f0) ≤ ((rd_T41 l0 (ji10)).f0)
          ·rw [if_pos c13] at H
           have c13b0 : decide (((rd_T41 l0 x3_1).f0) ≤ ((rd_T41 l0 (ji10)).f0)) = true := decide_eq_true c13
           clear c13
           obtain rfl := Option.some.inj H
           have p238 : 0 ≤ (x3_1 : Int) := of_decide_eq_true (by first | (with_reducible assumption) | assumption)
           have q238 : x3_1 < (l0.length : Int) := of_decide_eq_true (by first | (with_reducible assumption) | assumption)
           obtain ⟨ad238, A238_1, c238_1, A238_2, c238_2, e238, hx238_0, hx238_1, hx238_2, hl238_1, hi238_1, hl238_2, hi238_2⟩ := at_T41 HR0.out x3_1 p238 q238
           cases e238
           replace hx238_0 := (HB.out.cell (World.block_lt_of_cell? w _ hx238_0)).trans hx238_0
           replace hx238_1 := (HB.out.cell (World.block_lt_of_cell? w _ hx238_1)).trans hx238_1
           replace hx238_2 := (HB.out.cell (World.block_lt_of_cell? w _ hx238_2)).trans hx238_2
           have HR238_1 := Aside0.mk hi238_1
           have HC238_1 := Aside0.mk hl238_1
           clear hi238_1 hl238_1
           have HR238_2 := Aside0.mk hi238_2
           have HC238_2 := Aside0.mk hl238_2
           clear hi238_2 hl238_2
           replace p238 := eq_true p238
           replace q238 := eq_true q238
           try go_wp2_with (first | ((with_reducible refine gate_callee (f := 30) rfl ?_); refine goesL_ (some 16) rfl rfl Try.func30 (by kernel_rfl) rfl #[.agg #[.slice A238_1 ((rd_T41 l0 x3_1).f1.f0).length c238_1, .slice A238_2 ((rd_T41 l0 x3_1).f1.f1).length c238_2]] rfl (by (try simp only [List.map_toArray, List.map_cons, List.map_nil]); first | done | rfl | (simp only [List.length_drop, List.length_take]; rfl)) ?_; (with_reducible refine (fullerref03_Check.calls k1 _ _ ((rd_T41 l0 x3_1).f1.f0) _ _ ((rd_T41 l0 x3_1).f1.f1) true _ ?side1 ?side2 ?side3 ?side4 A4.out).mono ?_); (case side1 => repeat (first | exact (Kd.C_below HR238_1.out HB.out) | (with_reducible refine Kd.C_alloc ?_ _) | (with_reducible refine Kd.C_drewN ?_ _) | (with_reducible refine Kd.C_drew ?_))); (case side2 => exact HC238_1.out); (case side3 => repeat (first | exact (Kd.C_below HR238_2.out HB.out) | (with_reducible refine Kd.C_alloc ?_ _) | (with_reducible refine Kd.C_drewN ?_ _) | (with_reducible refine Kd.C_drew ?_))); (case side4 => exact HC238_2.out); rintro e w14 ⟨rfl, hb⟩; refine ⟨_, rfl, ?_⟩; have n0_ := Aside0.mk (below_step (bq0_ HB.out) hb); clear HB; have HB := n0_; clear n0_; (try clear hb); (try clear hb2); (try clear hk); (try clear hi)))
           have n0_ := Aside0.mk (below_drew1 HB.out)
           clear HB
           have HB := n0_
           clear n0_
           have p240 : 0 ≤ (x3_1 : Int) := of_decide_eq_true (by first | (with_reducible assumption) | assumption)
           have q240 : x3_1 < (l0.length : Int) := of_decide_eq_true (by first | (with_reducible assumption) | assumption)
           obtain ⟨ad240, A240_1, c240_1, A240_2, c240_2, e240, hx240_0, hx240_1, hx240_2, hl240_1, hi240_1, hl240_2, hi240_2⟩ := at_T41 HR0.out x3_1 p240 q240
           have hw240_2 := hx240_2
           have hw240_1 := hx240_1
           have hw240_0 := hx240_0
           obtain rfl : ad238 = ad240 := (by injection e240)
           replace hx240_0 := (HB.out.cell (World.block_lt_of_cell? w _ hx240_0)).trans hx240_0
           replace hx240_1 := (HB.out.cell (World.block_lt_of_cell? w _ hx240_1)).trans hx240_1
           replace hx240_2 := (HB.out.cell (World.block_lt_of_cell? w _ hx240_2)).trans hx240_2
           have HR240_1 := Aside0.mk hi240_1
           have HC240_1 := Aside0.mk hl240_1
           clear hi240_1 hl240_1
           have HR240_2 := Aside0.mk hi240_2
           have HC240_2 := Aside0.mk hl240_2
           clear hi240_2 hl240_2
           replace p240 := eq_true p240
           replace q240 := eq_true q240
           have p241 : 0 ≤ (x3_1 : Int) := of_decide_eq_true (by first | (with_reducible assumption) | assumption)
           have q241 : x3_1 < (l0.length : Int) := of_decide_eq_true (by first | (with_reducible assumption) | assumption)
           obtain ⟨ad241, A241_1, c241_1, A241_2, c241_2, e241, hx241_0, hx241_1, hx241_2, hl241_1, hi241_1, hl241_2, hi241_2⟩ := at_T41 HR0.out x3_1 p241 q241
           have hw241_2 := hx241_2
           have hw241_1 := hx241_1
           have hw241_0 := hx241_0
           obtain rfl : ad238 = ad241 := (by injection e241)
           replace hx241_0 := (HB.out.cell (World.block_lt_of_cell? w _ hx241_0)).trans hx241_0
           replace hx241_1 := (HB.out.cell (World.block_lt_of_cell? w _ hx241_1)).trans hx241_1
           replace hx241_2 := (HB.out.cell (World.block_lt_of_cell? w _ hx241_2)).trans hx241_2
           have HR241_1 := Aside0.mk hi241_1
           have HC241_1 := Aside0.mk hl241_1
           clear hi241_1 hl241_1
           have HR241_2 := Aside0.mk hi241_2
           have HC241_2 := Aside0.mk hl241_2
           clear hi241_2 hl241_2
           replace p241 := eq_true p241
           replace q241 := eq_true q241
           have ea_ := Option.some.inj (hx240_1.symm.trans hx241_1)
           injection ea_ with ea_ en_ ec_
           subst ea_
           subst ec_
           clear en_
           have ea_ := Option.some.inj (hx240_2.symm.trans hx241_2)
           injection ea_ with ea_ en_ ec_
           subst ea_
           subst ec_
           clear en_
           have p242 : 0 ≤ ((ji10) : Int) := of_decide_eq_true (by first | (with_reducible assumption) | assumption)
           have q242 : (ji10) < (l0.length : Int) := of_decide_eq_true (by first | (with_reducible assumption) | assumption)
           obtain ⟨ad242, A242_1, c242_1, A242_2, c242_2, e242, hx242_0, hx242_1, hx242_2, hl242_1, hi242_1, hl242_2, hi242_2⟩ := at_T41 HR0.out (ji10) p242 q242
           have hw242_2 := hx242_2
           have hw242_1 := hx242_1
           have hw242_0 := hx242_0
           obtain rfl : ad238 = ad242 := (by injection e242)
           replace hx242_0 := (HB.out.cell (World.block_lt_of_cell? w _ hx242_0)).trans hx242_0
           replace hx242_1 := (HB.out.cell (World.block_lt_of_cell? w _ hx242_1)).trans hx242_1
           replace hx242_2 := (HB.out.cell (World.block_lt_of_cell? w _ hx242_2)).trans hx242_2
           have HR242_1 := Aside0.mk hi242_1
           have HC242_1 := Aside0.mk hl242_1
           clear hi242_1 hl242_1
           have HR242_2 := Aside0.mk hi242_2
           have HC242_2 := Aside0.mk hl242_2
           clear hi242_2 hl242_2
           replace p242 := eq_true p242
           replace q242 := eq_true q242
           refine start_ (n := 43) (S := fun w' => w'.cell? (ad238.add ((x3_1).toNat * 3)) = some (.int .i64 ((rd_T41 l0 x3_1).f0)) ∧ w'.cell? ⟨(ad238.add ((x3_1).toNat * 3)).block, (ad238.add ((x3_1).toNat * 3)).off + 1, none⟩ = some (.slice A240_1 ((rd_T41 l0 x3_1).f1.f0).length c240_1) ∧ w'.cell? ⟨(ad238.add ((x3_1).toNat * 3)).block, (ad238.add ((x3_1).toNat * 3)).off + 2, none⟩ = some (.slice A240_2 ((rd_T41 l0 x3_1).f1.f1).length c240_2) ∧ w'.cell? (ad238.add ((x3_1).toNat * 3)) = some (.int .i64 ((rd_T41 l0 x3_1).f0)) ∧ w'.cell? ⟨(ad238.add ((x3_1).toNat * 3)).block, (ad238.add ((x3_1).toNat * 3)).off + 1, none⟩ = some (.slice A240_1 ((rd_T41 l0 x3_1).f1.f0).length c240_1) ∧ w'.cell? ⟨(ad238.add ((x3_1).toNat * 3)).block, (ad238.add ((x3_1).toNat * 3)).off + 2, none⟩ = some (.slice A240_2 ((rd_T41 l0 x3_1).f1.f1).length c240_2) ∧ w'.cell? (ad238.add (((ji10)).toNat * 3)) = some (.int .i64 ((rd_T41 l0 (ji10)).f0)) ∧ w'.cell? ⟨(ad238.add (((ji10)).toNat * 3)).block, (ad238.add (((ji10)).toNat * 3)).off + 1, none⟩ = some (.slice A242_1 ((rd_T41 l0 (ji10)).f1.f0).length c242_1) ∧ w'.cell? ⟨(ad238.add (((ji10)).toNat * 3)).block, (ad238.add (((ji10)).toNat * 3)).off + 2, none⟩ = some (.slice A242_2 ((rd_T41 l0 (ji10)).f1.f1).length c242_2)) (ds := []) L18_0 (by kernel_rfl) rfl rfl ⟨((HB.out.cell (World.block_lt_of_cell? w _ hw240_0)).trans hw240_0), ((HB.out.cell (World.block_lt_of_cell? w _ hw240_1)).trans hw240_1), ((HB.out.cell (World.block_lt_of_cell? w _ hw240_2)).trans hw240_2), ((HB.out.cell (World.block_lt_of_cell? w _ hw241_0)).trans hw241_0), ((HB.out.cell (World.block_lt_of_cell? w _ hw241_1)).trans hw241_1), ((HB.out.cell (World.block_lt_of_cell? w _ hw241_2)).trans hw241_2), ((HB.out.cell (World.block_lt_of_cell? w _ hw242_0)).trans hw242_0), ((HB.out.cell (World.block_lt_of_cell? w _ hw242_1)).trans hw242_1), ((HB.out.cell (World.block_lt_of_cell? w _ hw242_2)).trans hw242_2)⟩ (fun hHeld => ?_); refine with_tabW fullerref17_Check.tab5 fullerref17_Check.bits5 (fun HT_ HW_ => ?_)
           generalize w14.drew = w15 at HB HR240_1 HR240_2 HR241_1 HR241_2 HR242_1 HR242_2 hx240_0 hx240_1 hx240_2 hx241_0 hx241_1 hx241_2 hx242_0 hx242_1 hx242_2 hHeld ⊢
           refine pure_ (i := 0) (N := some 17) (v := ?_) (a' := ?_) L18_1 rfl rfl (any_of HT_.out (by kernel_rfl)) (fun _ _ _ h => h) (Or.inl ⟨by rfl, ?_⟩) ?_ ?_
           rotate_left
           ·intro w'
            go_simp
            with_reducible rfl
           rotate_left
           ·simp only [Act.put, sA_, sB_, sC_, i64_w, i32_w]
            rfl
           refine pure_ (i := 1) (N := some 18) (v := ?_) (a' := ?_) L18_2 rfl rfl (any_of HT_.out (by kernel_rfl)) (fun _ _ _ h => h) (Or.inl ⟨by rfl, ?_⟩) ?_ ?_
           rotate_left
           ·intro w'
            go_simp
            with_reducible rfl
           rotate_left
           ·simp only [Act.put, sA_, sB_, sC_, i64_w, i32_w]
            rfl
           refine pure_ (i := 2) (N := some 19) (v := ?_) (a' := ?_) L18_3 rfl rfl (any_of HT_.out (by kernel_rfl)) (fun _ _ _ h => h) (Or.inl ⟨by rfl, ?_⟩) ?_ ?_
           rotate_left
           ·intro w'
            go_simp
            with_reducible rfl
           rotate_left
           ·simp only [Act.put, sA_, sB_, sC_, i64_w, i32_w]
            rfl
           refine pure_ (i := 3) (N := some 20) (v := ?_) (a' := ?_) L18_4 rfl rfl (any_of HT_.out (by kernel_rfl)) (fun _ _ _ h => h) (Or.inl ⟨by rfl, ?_⟩) ?_ ?_
           rotate_left
           ·intro w'
            go_simp
            with_reducible rfl
           rotate_left
           ·simp only [Act.put, sA_, sB_, sC_, i64_w, i32_w]
            rfl
           refine pure_ (i := 4) (N := some 21) (v := ?_) (a' := ?_) L18_5 rfl rfl (any_of HT_.out (by kernel_rfl)) (fun _ _ _ h => h) (Or.inl ⟨by rfl, ?_⟩) ?_ ?_
           rotate_left
           ·intro w'
            go_simp
            with_reducible rfl
           rotate_left
           ·simp only [Act.put, sA_, sB_, sC_, i64_w, i32_w]
            rfl
           refine pure_ (i := 5) (N := some 22) (v := ?_) (a' := ?_) L18_6 rfl rfl (any_of HT_.out (by kernel_rfl)) (fun _ _ _ h => h) (Or.inl ⟨by rfl, ?_⟩) ?_ ?_
           rotate_left
           ·intro w'
            go_simp
            with_reducible rfl
           rotate_left
           ·simp only [Act.put, sA_, sB_, sC_, i64_w, i32_w]
            rfl
           refine pure_ (i := 6) (N := some 23) (v := ?_) (a' := ?_) L18_7 rfl rfl (any_of HT_.out (by kernel_rfl)) (fun _ _ _ h => h) (Or.inl ⟨by rfl, ?_⟩) ?_ ?_
           rotate_left
           ·intro w'
            go_simp
            with_reducible rfl
           rotate_left
           ·simp only [Act.put, sA_, sB_, sC_, i64_w, i32_w]
            rfl
           refine take_ (i := 7) (N := some 24) (v := ?_) (a' := ?_) L18_8 rfl rfl (take_ofW HT_.out HW_.out (by kernel_rfl)) (fun _ _ _ h => h) (Or.inl ⟨by rfl, ?_⟩) hHeld ?_ ?_
           rotate_left
           ·rintro w' ⟨s0, s1, s2, s3, s4, s5, s6, s7, s8⟩
            go_simp
            with_reducible rfl
           rotate_left
           ·simp only [Act.put, sA_, sB_, sC_, i64_w, i32_w]
            rfl
           refine pure_ (i := 8) (N := some 25) (v := ?_) (a' := ?_) L18_9 rfl rfl (any_of HT_.out (by kernel_rfl)) (fun _ _ _ h => h) (Or.inl ⟨by rfl, ?_⟩) ?_ ?_
           rotate_left
           ·intro w'
            go_simp
            with_reducible rfl
           rotate_left
           ·simp only [Act.put, sA_, sB_, sC_, i64_w, i32_w]
            rfl
           refine pure_ (i := 9) (N := some 26) (v := ?_) (a' := ?_) L18_10 rfl rfl (any_of HT_.out (by kernel_rfl)) (fun _ _ _ h => h) (Or.inl ⟨by rfl, ?_⟩) ?_ ?_
           rotate_left
           ·intro w'
            go_simp
            with_reducible rfl
           rotate_left
           ·simp only [Act.put, sA_, sB_, sC_, i64_w, i32_w]
            rfl
           refine pure_ (i := 10) (N := some 27) (v := ?_) (a' := ?_) L18_11 rfl rfl (any_of HT_.out (by kernel_rfl)) (fun _ _ _ h => h) (Or.inl ⟨by rfl, ?_⟩) ?_ ?_
           rotate_left
           ·intro w'
            go_simp
            with_reducible rfl
           rotate_left
           ·simp only [Act.put, sA_, sB_, sC_, i64_w, i32_w]
            rfl
           refine pure_ (i := 11) (N := some 28) (v := ?_) (a' := ?_) L18_14 rfl rfl (any_of HT_.out (by kernel_rfl)) (fun _ _ _ h => h) (Or.inl ⟨by rfl, ?_⟩) ?_ ?_
           rotate_left
           ·intro w'
            go_simp
            with_reducible rfl
           rotate_left
           ·simp only [Act.put, sA_, sB_, sC_, i64_w, i32_w]
            rfl
           refine pure_ (i := 12) (N := some 29) (v := ?_) (a' := ?_) L18_15 rfl rfl (any_of HT_.out (by kernel_rfl)) (fun _ _ _ h => h) (Or.inl ⟨by rfl, ?_⟩) ?_ ?_
           rotate_left
           ·intro w'
            go_simp
            with_reducible rfl
           rotate_left
           ·simp only [Act.put, sA_, sB_, sC_, i64_w, i32_w]
            rfl
           refine pure_ (i := 13) (N := some 30) (v := ?_) (a' := ?_) L18_16 rfl rfl (any_of HT_.out (by kernel_rfl)) (fun _ _ _ h => h) (Or.inl ⟨by rfl, ?_⟩) ?_ ?_
           rotate_left
           ·intro w'
            go_simp
            with_reducible rfl
           rotate_left
           ·simp only [Act.put, sA_, sB_, sC_, i64_w, i32_w]
            rfl
           refine pure_ (i := 14) (N := some 31) (v := ?_) (a' := ?_) L18_17 rfl rfl (any_of HT_.out (by kernel_rfl)) (fun _ _ _ h => h) (Or.inl ⟨by rfl, ?_⟩) ?_ ?_
           rotate_left
           ·intro w'
            go_simp
            with_reducible rfl
           rotate_left
           ·simp only [Act.put, sA_, sB_, sC_, i64_w, i32_w]
            rfl
           refine pure_ (i := 15) (N := some 32) (v := ?_) (a' := ?_) L18_18 rfl rfl (any_of HT_.out (by kernel_rfl)) (fun _ _ _ h => h) (Or.inl ⟨by rfl, ?_⟩) ?_ ?_
           rotate_left
           ·intro w'
            go_simp
            with_reducible rfl
           rotate_left
           ·simp only [Act.put, sA_, sB_, sC_, i64_w, i32_w]
            rfl
           refine pure_ (i := 16) (N := some 33) (v := ?_) (a' := ?_) L18_19 rfl rfl (any_of HT_.out (by kernel_rfl)) (fun _ _ _ h => h) (Or.inl ⟨by rfl, ?_⟩) ?_ ?_
           rotate_left
           ·intro w'
            go_simp
            with_reducible rfl
           rotate_left
           ·simp only [Act.put, sA_, sB_, sC_, i64_w, i32_w]
            rfl
           refine pure_ (i := 17) (N := some 34) (v := ?_) (a' := ?_) L18_20 rfl rfl (any_of HT_.out (by kernel_rfl)) (fun _ _ _ h => h) (Or.inl ⟨by rfl, ?_⟩) ?_ ?_
           rotate_left
           ·intro w'
            go_simp
            with_reducible rfl
           rotate_left
           ·simp only [Act.put, sA_, sB_, sC_, i64_w, i32_w]
            rfl
           refine pure_ (i := 19) (N := some 36) (v := ?_) (a' := ?_) L18_21 rfl rfl (any_of HT_.out (by kernel_rfl)) (fun _ _ _ h => h) (Or.inl ⟨by rfl, ?_⟩) ?_ ?_
           rotate_left
           ·intro w'
            go_simp
            with_reducible rfl
           rotate_left
           ·simp only [Act.put, sA_, sB_, sC_, i64_w, i32_w]
            rfl
           refine pure_ (i := 20) (N := some 37) (v := ?_) (a' := ?_) L18_22 rfl rfl (any_of HT_.out (by kernel_rfl)) (fun _ _ _ h => h) (Or.inl ⟨by rfl, ?_⟩) ?_ ?_
           rotate_left
           ·intro w'
            go_simp
            with_reducible rfl
           rotate_left
           ·simp only [Act.put, sA_, sB_, sC_, i64_w, i32_w]
            rfl
           refine pure_ (i := 21) (N := some 38) (v := ?_) (a' := ?_) L18_23 rfl rfl (any_of HT_.out (by kernel_rfl)) (fun _ _ _ h => h) (Or.inl ⟨by rfl, ?_⟩) ?_ ?_
           rotate_left
           ·intro w'
            go_simp
            with_reducible rfl
           rotate_left
           ·simp only [Act.put, sA_, sB_, sC_, i64_w, i32_w]
            rfl
           refine pure_ (i := 22) (N := some 39) (v := ?_) (a' := ?_) L18_24 rfl rfl (any_of HT_.out (by kernel_rfl)) (fun _ _ _ h => h) (Or.inl ⟨by rfl, ?_⟩) ?_ ?_
           rotate_left
           ·intro w'
            go_simp
            with_reducible rfl
           rotate_left
           ·simp only [Act.put, sA_, sB_, sC_, i64_w, i32_w]
            rfl
           refine pure_ (i := 23) (N := some 40) (v := ?_) (a' := ?_) L18_25 rfl rfl (any_of HT_.out (by kernel_rfl)) (fun _ _ _ h => h) (Or.inl ⟨by rfl, ?_⟩) ?_ ?_
           rotate_left
           ·intro w'
            go_simp
            with_reducible rfl
           rotate_left
           ·simp only [Act.put, sA_, sB_, sC_, i64_w, i32_w]
            rfl
           refine take_ (i := 18) (N := some 35) (v := ?_) (a' := ?_) L18_26 rfl rfl (take_ofW HT_.out HW_.out (by kernel_rfl)) (fun _ _ _ h => h) (Or.inl ⟨by rfl, ?_⟩) hHeld ?_ ?_
           rotate_left
           ·rintro w' ⟨s0, s1, s2, s3, s4, s5, s6, s7, s8⟩
            go_simp
            with_reducible rfl
           rotate_left
           ·simp only [Act.put, sA_, sB_, sC_, i64_w, i32_w]
            rfl
           refine take_ (i := 24) (N := some 41) (v := ?_) (a' := ?_) L18_27 rfl rfl (take_ofW HT_.out HW_.out (by kernel_rfl)) (fun _ _ _ h => h) (Or.inl ⟨by rfl, ?_⟩) hHeld ?_ ?_
           rotate_left
           ·rintro w' ⟨s0, s1, s2, s3, s4, s5, s6, s7, s8⟩
            go_simp
            with_reducible rfl
           rotate_left
           ·simp only [Act.put, sA_, sB_, sC_, i64_w, i32_w]
            rfl
           refine pure_ (i := 25) (N := some 42) (v := ?_) (a' := ?_) L18_28 rfl rfl (any_of HT_.out (by kernel_rfl)) (fun _ _ _ h => h) (Or.inl ⟨by rfl, ?_⟩) ?_ ?_
           rotate_left
           ·intro w'
            go_simp
            with_reducible rfl
           rotate_left
           ·simp only [Act.put, sA_, sB_, sC_, i64_w, i32_w]
            rfl
           refine pure_ (i := 26) (N := some 43) (v := ?_) (a' := ?_) L18_29 rfl rfl (any_of HT_.out (by kernel_rfl)) (fun _ _ _ h => h) (Or.inl ⟨by rfl, ?_⟩) ?_ ?_
           rotate_left
           ·intro w'
            go_simp
            with_reducible rfl
           rotate_left
           ·simp only [Act.put, sA_, sB_, sC_, i64_w, i32_w]
            rfl
           refine skips_ (fuel := 3) (m := 16) HT_.out (fun _ _ _ _ _ h => h) [(27, 44), (28, 45), (29, 46), (30, 47), (31, 48), (32, 49), (33, 50), (34, 51), (35, 52), (36, 53), (37, 54), (38, 55), (39, 56)] L18_30 rfl (by kernel_rfl) (by kernel_rfl) (a' := ?_) ?_ ?_
           rotate_left
           ·simp only [putU, Act.put, sA_, sB_, sC_]
            rfl
           refine pure_ (i := 40) (N := some 57) (v := ?_) (a' := ?_) L18_31 rfl rfl (any_of HT_.out (by kernel_rfl)) (fun _ _ _ h => h) (Or.inl ⟨by rfl, ?_⟩) ?_ ?_
           rotate_left
           ·intro w'
            go_simp
            with_reducible rfl
           rotate_left
           ·simp only [Act.put, sA_, sB_, sC_, i64_w, i32_w]
            rfl
           refine pure_ (i := 41) (N := some 58) (v := ?_) (a' := ?_) L18_12 rfl rfl (any_of HT_.out (by kernel_rfl)) (fun _ _ _ h => h) (Or.inl ⟨by rfl, ?_⟩) ?_ ?_
           rotate_left
           ·intro w'
            go_simp
            with_reducible rfl
           rotate_left
           ·simp only [Act.put, sA_, sB_, sC_, i64_w, i32_w]
            rfl
           refine pure_ (i := 42) (N := some 59) (v := ?_) (a' := ?_) L18_13 rfl rfl (any_of HT_.out (by kernel_rfl)) (fun _ _ _ h => h) (Or.inl ⟨by rfl, ?_⟩) ?_ ?_
           rotate_left
           ·intro w'
            go_simp
            with_reducible rfl
           rotate_left
           ·simp only [Act.put, sA_, sB_, sC_, i64_w, i32_w]
            rfl
           refine done_ (done_of HT_.out (by kernel_rfl)) ?_
           try go_wp2
           go_ret
           exact ⟨by first | rfl | (simp [errW_none, errW_some] <;> rfl) | (simp only [← hji10]; first | rfl | (simp [errW_none, errW_some] <;> rfl)) | (simp [*, errW_none, errW_some] <;> rfl), by repeat (first | (with_reducible first | exact HB.out | apply below_alloc | apply pw_below_drewN | apply below_drew1) | exact HB.out)⟩
          ·rw [if_neg c13] at H
           have c13b0 : decide (((rd_T41 l0 x3_1).f0) ≤ ((rd_T41 l0 (ji10)).f0)) = false := decide_eq_false c13
           clear c13
           by_cases c16 : 0 < (l0.length : Int)
           ·rw [if_pos c16] at H
            have c16b0 : decide (0 < (l0.length : Int)) = true := decide_eq_true c16
            have c16b1 : decide (0 < l0.length) = true := decide_eq_true (by omega)
            clear c16
            replace H := Option.bind_eq_some_iff.mp H
            obtain ⟨t245, A170, H⟩ := H
            replace H : (if t245 = true then (fullerref17_Check.l0 k1 l0 (wrap64 (x3_1 + 1))) else (some false)) = some r := H
            have A17 := Aside0.mk A170
            clear A170
            by_cases c18 : t245 = true
            ·subst c18
             have H1 : (fullerref17_Check.l0 k1 l0 (wrap64 (x3_1 + 1))) = some r := by rw [if_pos rfl] at H; exact H
             clear H
             have H := H1
             clear H1
             have H' := Aside0.mk H
             clear H
             have p238 : 0 ≤ (x3_1 : Int) := of_decide_eq_true (by first | (with_reducible assumption) | assumption)
             have q238 : x3_1 < (l0.length : Int) := of_decide_eq_true (by first | (with_reducible assumption) | assumption)
             obtain ⟨ad238, A238_1, c238_1, A238_2, c238_2, e238, hx238_0, hx238_1, hx238_2, hl238_1, hi238_1, hl238_2, hi238_2⟩ := at_T41 HR0.out x3_1 p238 q238
             cases e238
             replace hx238_0 := (HB.out.cell (World.block_lt_of_cell? w _ hx238_0)).trans hx238_0
             replace hx238_1 := (HB.out.cell (World.block_lt_of_cell? w _ hx238_1)).trans hx238_1
             replace hx238_2 := (HB.out.cell (World.block_lt_of_cell? w _ hx238_2)).trans hx238_2
             have HR238_1 := Aside0.mk hi238_1
             have HC238_1 := Aside0.mk hl238_1
             clear hi238_1 hl238_1
             have HR238_2 := Aside0.mk hi238_2
             have HC238_2 := Aside0.mk hl238_2
             clear hi238_2 hl238_2
             replace p238 := eq_true p238
             replace q238 := eq_true q238
             try go_wp2_with (first | ((with_reducible refine gate_callee (f := 30) rfl ?_); refine goesL_ (some 16) rfl rfl Try.func30 (by kernel_rfl) rfl #[.agg #[.slice A238_1 ((rd_T41 l0 x3_1).f1.f0).length c238_1, .slice A238_2 ((rd_T41 l0 x3_1).f1.f1).length c238_2]] rfl (by (try simp only [List.map_toArray, List.map_cons, List.map_nil]); first | done | rfl | (simp only [List.length_drop, List.length_take]; rfl)) ?_; (with_reducible refine (fullerref03_Check.calls k1 _ _ ((rd_T41 l0 x3_1).f1.f0) _ _ ((rd_T41 l0 x3_1).f1.f1) true _ ?side1 ?side2 ?side3 ?side4 A4.out).mono ?_); (case side1 => repeat (first | exact (Kd.C_below HR238_1.out HB.out) | (with_reducible refine Kd.C_alloc ?_ _) | (with_reducible refine Kd.C_drewN ?_ _) | (with_reducible refine Kd.C_drew ?_))); (case side2 => exact HC238_1.out); (case side3 => repeat (first | exact (Kd.C_below HR238_2.out HB.out) | (with_reducible refine Kd.C_alloc ?_ _) | (with_reducible refine Kd.C_drewN ?_ _) | (with_reducible refine Kd.C_drew ?_))); (case side4 => exact HC238_2.out); rintro e w19 ⟨rfl, hb⟩; refine ⟨_, rfl, ?_⟩; have n0_ := Aside0.mk (below_step (bq0_ HB.out) hb); clear HB; have HB := n0_; clear n0_; (try clear hb); (try clear hb2); (try clear hk); (try clear hi)))
             have n0_ := Aside0.mk (below_drew1 HB.out)
             clear HB
             have HB := n0_
             clear n0_
             have p240 : 0 ≤ (x3_1 : Int) := of_decide_eq_true (by first | (with_reducible assumption) | assumption)
             have q240 : x3_1 < (l0.length : Int) := of_decide_eq_true (by first | (with_reducible assumption) | assumption)
             obtain ⟨ad240, A240_1, c240_1, A240_2, c240_2, e240, hx240_0, hx240_1, hx240_2, hl240_1, hi240_1, hl240_2, hi240_2⟩ := at_T41 HR0.out x3_1 p240 q240
             have hw240_2 := hx240_2
             have hw240_1 := hx240_1
             have hw240_0 := hx240_0
             obtain rfl : ad238 = ad240 := (by injection e240)
             replace hx240_0 := (HB.out.cell (World.block_lt_of_cell? w _ hx240_0)).trans hx240_0
             replace hx240_1 := (HB.out.cell (World.block_lt_of_cell? w _ hx240_1)).trans hx240_1
             replace hx240_2 := (HB.out.cell (World.block_lt_of_cell? w _ hx240_2)).trans hx240_2
             have HR240_1 := Aside0.mk hi240_1
             have HC240_1 := Aside0.mk hl240_1
             clear hi240_1 hl240_1
             have HR240_2 := Aside0.mk hi240_2
             have HC240_2 := Aside0.mk hl240_2
             clear hi240_2 hl240_2
             replace p240 := eq_true p240
             replace q240 := eq_true q240
             have p241 : 0 ≤ (x3_1 : Int) := of_decide_eq_true (by first | (with_reducible assumption) | assumption)
             have q241 : x3_1 < (l0.length : Int) := of_decide_eq_true (by first | (with_reducible assumption) | assumption)
             obtain ⟨ad241, A241_1, c241_1, A241_2, c241_2, e241, hx241_0, hx241_1, hx241_2, hl241_1, hi241_1, hl241_2, hi241_2⟩ := at_T41 HR0.out x3_1 p241 q241
             have hw241_2 := hx241_2
             have hw241_1 := hx241_1
             have hw241_0 := hx241_0
             obtain rfl : ad238 = ad241 := (by injection e241)
             replace hx241_0 := (HB.out.cell (World.block_lt_of_cell? w _ hx241_0)).trans hx241_0
             replace hx241_1 := (HB.out.cell (World.block_lt_of_cell? w _ hx241_1)).trans hx241_1
             replace hx241_2 := (HB.out.cell (World.block_lt_of_cell? w _ hx241_2)).trans hx241_2
             have HR241_1 := Aside0.mk hi241_1
             have HC241_1 := Aside0.mk hl241_1
             clear hi241_1 hl241_1
             have HR241_2 := Aside0.mk hi241_2
             have HC241_2 := Aside0.mk hl241_2
             clear hi241_2 hl241_2
             replace p241 := eq_true p241
             replace q241 := eq_true q241
             have ea_ := Option.some.inj (hx240_1.symm.trans hx241_1)
             injection ea_ with ea_ en_ ec_
             subst ea_
             subst ec_
             clear en_
             have ea_ := Option.some.inj (hx240_2.symm.trans hx241_2)
             injection ea_ with ea_ en_ ec_
             subst ea_
             subst ec_
             clear en_
             have p242 : 0 ≤ ((ji10) : Int) := of_decide_eq_true (by first | (with_reducible assumption) | assumption)
             have q242 : (ji10) < (l0.length : Int) := of_decide_eq_true (by first | (with_reducible assumption) | assumption)
             obtain ⟨ad242, A242_1, c242_1, A242_2, c242_2, e242, hx242_0, hx242_1, hx242_2, hl242_1, hi242_1, hl242_2, hi242_2⟩ := at_T41 HR0.out (ji10) p242 q242
             have hw242_2 := hx242_2
             have hw242_1 := hx242_1
             have hw242_0 := hx242_0
             obtain rfl : ad238 = ad242 := (by injection e242)
             replace hx242_0 := (HB.out.cell (World.block_lt_of_cell? w _ hx242_0)).trans hx242_0
             replace hx242_1 := (HB.out.cell (World.block_lt_of_cell? w _ hx242_1)).trans hx242_1
             replace hx242_2 := (HB.out.cell (World.block_lt_of_cell? w _ hx242_2)).trans hx242_2
             have HR242_1 := Aside0.mk hi242_1
             have HC242_1 := Aside0.mk hl242_1
             clear hi242_1 hl242_1
             have HR242_2 := Aside0.mk hi242_2
             have HC242_2 := Aside0.mk hl242_2
             clear hi242_2 hl242_2
             replace p242 := eq_true p242
             replace q242 := eq_true q242
             have p243 : 0 ≤ (x3_1 : Int) := of_decide_eq_true (by first | (with_reducible assumption) | assumption)
             have q243 : x3_1 < (l0.length : Int) := of_decide_eq_true (by first | (with_reducible assumption) | assumption)
             obtain ⟨ad243, A243_1, c243_1, A243_2, c243_2, e243, hx243_0, hx243_1, hx243_2, hl243_1, hi243_1, hl243_2, hi243_2⟩ := at_T41 HR0.out x3_1 p243 q243
             have hw243_2 := hx243_2
             have hw243_1 := hx243_1
             have hw243_0 := hx243_0
             obtain rfl : ad238 = ad243 := (by injection e243)
             replace hx243_0 := (HB.out.cell (World.block_lt_of_cell? w _ hx243_0)).trans hx243_0
             replace hx243_1 := (HB.out.cell (World.block_lt_of_cell? w _ hx243_1)).trans hx243_1
             replace hx243_2 := (HB.out.cell (World.block_lt_of_cell? w _ hx243_2)).trans hx243_2
             have HR243_1 := Aside0.mk hi243_1
             have HC243_1 := Aside0.mk hl243_1
             clear hi243_1 hl243_1
             have HR243_2 := Aside0.mk hi243_2
             have HC243_2 := Aside0.mk hl243_2
             clear hi243_2 hl243_2
             replace p243 := eq_true p243
             replace q243 := eq_true q243
             have ea_ := Option.some.inj (hx240_1.symm.trans hx243_1)
             injection ea_ with ea_ en_ ec_
             subst ea_
             subst ec_
             clear en_
             have ea_ := Option.some.inj (hx240_2.symm.trans hx243_2)
             injection ea_ with ea_ en_ ec_
             subst ea_
             subst ec_
             clear en_
             have p244 : 0 ≤ (0 : Int) := (by omega)
             have q244 : 0 < (l0.length : Int) := of_decide_eq_true (by first | (with_reducible assumption) | assumption)
             obtain ⟨ad244, A244_1, c244_1, A244_2, c244_2, e244, hx244_0, hx244_1, hx244_2, hl244_1, hi244_1, hl244_2, hi244_2⟩ := at_T41 HR0.out 0 p244 q244
             have hw244_2 := hx244_2
             (try rw [show ((0 : Int)).toNat = 0 from rfl] at hw244_2)
             (try rw [show 0 * 3 = 0 from rfl] at hw244_2)
             (try rw [Addr.add_zero'] at hw244_2)
             have hw244_1 := hx244_1
             (try rw [show ((0 : Int)).toNat = 0 from rfl] at hw244_1)
             (try rw [show 0 * 3 = 0 from rfl] at hw244_1)
             (try rw [Addr.add_zero'] at hw244_1)
             have hw244_0 := hx244_0
             (try rw [show ((0 : Int)).toNat = 0 from rfl] at hw244_0)
             (try rw [show 0 * 3 = 0 from rfl] at hw244_0)
             (try rw [Addr.add_zero'] at hw244_0)
             obtain rfl : ad238 = ad244 := (by injection e244)
             have qi244 : (0 < l0.length) = True := eq_true (by omega)
             (try rw [show ((0 : Int)).toNat = 0 from rfl] at hx244_0)
             (try rw [show 0 * 3 = 0 from rfl] at hx244_0)
             (try rw [Addr.add_zero'] at hx244_0)
             (try rw [show ((0 : Int)).toNat = 0 from rfl] at hx244_1)
             (try rw [show 0 * 3 = 0 from rfl] at hx244_1)
             (try rw [Addr.add_zero'] at hx244_1)
             (try rw [show ((0 : Int)).toNat = 0 from rfl] at hx244_2)
             (try rw [show 0 * 3 = 0 from rfl] at hx244_2)
             (try rw [Addr.add_zero'] at hx244_2)
             replace hx244_0 := (HB.out.cell (World.block_lt_of_cell? w _ hx244_0)).trans hx244_0
             replace hx244_1 := (HB.out.cell (World.block_lt_of_cell? w _ hx244_1)).trans hx244_1
             replace hx244_2 := (HB.out.cell (World.block_lt_of_cell? w _ hx244_2)).trans hx244_2
             have HR244_1 := Aside0.mk hi244_1
             have HC244_1 := Aside0.mk hl244_1
             clear hi244_1 hl244_1
             have HR244_2 := Aside0.mk hi244_2
             have HC244_2 := Aside0.mk hl244_2
             clear hi244_2 hl244_2
             replace p244 := eq_true p244
             replace q244 := eq_true q244
             refine start_ (n := 43) (S := fun w' => w'.cell? (ad238.add ((x3_1).toNat * 3)) = some (.int .i64 ((rd_T41 l0 x3_1).f0)) ∧ w'.cell? ⟨(ad238.add ((x3_1).toNat * 3)).block, (ad238.add ((x3_1).toNat * 3)).off + 1, none⟩ = some (.slice A240_1 ((rd_T41 l0 x3_1).f1.f0).length c240_1) ∧ w'.cell? ⟨(ad238.add ((x3_1).toNat * 3)).block, (ad238.add ((x3_1).toNat * 3)).off + 2, none⟩ = some (.slice A240_2 ((rd_T41 l0 x3_1).f1.f1).length c240_2) ∧ w'.cell? (ad238.add ((x3_1).toNat * 3)) = some (.int .i64 ((rd_T41 l0 x3_1).f0)) ∧ w'.cell? ⟨(ad238.add ((x3_1).toNat * 3)).block, (ad238.add ((x3_1).toNat * 3)).off + 1, none⟩ = some (.slice A240_1 ((rd_T41 l0 x3_1).f1.f0).length c240_1) ∧ w'.cell? ⟨(ad238.add ((x3_1).toNat * 3)).block, (ad238.add ((x3_1).toNat * 3)).off + 2, none⟩ = some (.slice A240_2 ((rd_T41 l0 x3_1).f1.f1).length c240_2) ∧ w'.cell? (ad238.add (((ji10)).toNat * 3)) = some (.int .i64 ((rd_T41 l0 (ji10)).f0)) ∧ w'.cell? ⟨(ad238.add (((ji10)).toNat * 3)).block, (ad238.add (((ji10)).toNat * 3)).off + 1, none⟩ = some (.slice A242_1 ((rd_T41 l0 (ji10)).f1.f0).length c242_1) ∧ w'.cell? ⟨(ad238.add (((ji10)).toNat * 3)).block, (ad238.add (((ji10)).toNat * 3)).off + 2, none⟩ = some (.slice A242_2 ((rd_T41 l0 (ji10)).f1.f1).length c242_2) ∧ w'.cell? (ad238.add ((x3_1).toNat * 3)) = some (.int .i64 ((rd_T41 l0 x3_1).f0)) ∧ w'.cell? ⟨(ad238.add ((x3_1).toNat * 3)).block, (ad238.add ((x3_1).toNat * 3)).off + 1, none⟩ = some (.slice A240_1 ((rd_T41 l0 x3_1).f1.f0).length c240_1) ∧ w'.cell? ⟨(ad238.add ((x3_1).toNat * 3)).block, (ad238.add ((x3_1).toNat * 3)).off + 2, none⟩ = some (.slice A240_2 ((rd_T41 l0 x3_1).f1.f1).length c240_2) ∧ w'.cell? ad238 = some (.int .i64 ((rd_T41 l0 0).f0)) ∧ w'.cell? ⟨ad238.block, ad238.off + 1, none⟩ = some (.slice A244_1 ((rd_T41 l0 0).f1.f0).length c244_1) ∧ w'.cell? ⟨ad238.block, ad238.off + 2, none⟩ = some (.slice A244_2 ((rd_T41 l0 0).f1.f1).length c244_2)) (ds := []) L18_0 (by kernel_rfl) rfl rfl ⟨((HB.out.cell (World.block_lt_of_cell? w _ hw240_0)).trans hw240_0), ((HB.out.cell (World.block_lt_of_cell? w _ hw240_1)).trans hw240_1), ((HB.out.cell (World.block_lt_of_cell? w _ hw240_2)).trans hw240_2), ((HB.out.cell (World.block_lt_of_cell? w _ hw241_0)).trans hw241_0), ((HB.out.cell (World.block_lt_of_cell? w _ hw241_1)).trans hw241_1), ((HB.out.cell (World.block_lt_of_cell? w _ hw241_2)).trans hw241_2), ((HB.out.cell (World.block_lt_of_cell? w _ hw242_0)).trans hw242_0), ((HB.out.cell (World.block_lt_of_cell? w _ hw242_1)).trans hw242_1), ((HB.out.cell (World.block_lt_of_cell? w _ hw242_2)).trans hw242_2), ((HB.out.cell (World.block_lt_of_cell? w _ hw243_0)).trans hw243_0), ((HB.out.cell (World.block_lt_of_cell? w _ hw243_1)).trans hw243_1), ((HB.out.cell (World.block_lt_of_cell? w _ hw243_2)).trans hw243_2), ((HB.out.cell (World.block_lt_of_cell? w _ hw244_0)).trans hw244_0), ((HB.out.cell (World.block_lt_of_cell? w _ hw244_1)).trans hw244_1), ((HB.out.cell (World.block_lt_of_cell? w _ hw244_2)).trans hw244_2)⟩ (fun hHeld => ?_); refine with_tabW fullerref17_Check.tab5 fullerref17_Check.bits5 (fun HT_ HW_ => ?_)
             generalize w19.drew = w20 at HB HR240_1 HR240_2 HR241_1 HR241_2 HR242_1 HR242_2 HR243_1 HR243_2 HR244_1 HR244_2 hx240_0 hx240_1 hx240_2 hx241_0 hx241_1 hx241_2 hx242_0 hx242_1 hx242_2 hx243_0 hx243_1 hx243_2 hx244_0 hx244_1 hx244_2 hHeld ⊢
             refine pure_ (i := 0) (N := some 17) (v := ?_) (a' := ?_) L18_1 rfl rfl (any_of HT_.out (by kernel_rfl)) (fun _ _ _ h => h) (Or.inl ⟨by rfl, ?_⟩) ?_ ?_
             rotate_left
             ·intro w'
              go_simp
              with_reducible rfl
             rotate_left
             ·simp only [Act.put, sA_, sB_, sC_, i64_w, i32_w]
              rfl
             refine pure_ (i := 1) (N := some 18) (v := ?_) (a' := ?_) L18_2 rfl rfl (any_of HT_.out (by kernel_rfl)) (fun _ _ _ h => h) (Or.inl ⟨by rfl, ?_⟩) ?_ ?_
             rotate_left
             ·intro w'
              go_simp
              with_reducible rfl
             rotate_left
             ·simp only [Act.put, sA_, sB_, sC_, i64_w, i32_w]
              rfl
             refine pure_ (i := 2) (N := some 19) (v := ?_) (a' := ?_) L18_3 rfl rfl (any_of HT_.out (by kernel_rfl)) (fun _ _ _ h => h) (Or.inl ⟨by rfl, ?_⟩) ?_ ?_
             rotate_left
             ·intro w'
              go_simp
              with_reducible rfl
             rotate_left
             ·simp only [Act.put, sA_, sB_, sC_, i64_w, i32_w]
              rfl
             refine pure_ (i := 3) (N := some 20) (v := ?_) (a' := ?_) L18_4 rfl rfl (any_of HT_.out (by kernel_rfl)) (fun _ _ _ h => h) (Or.inl ⟨by rfl, ?_⟩) ?_ ?_
             rotate_left
             ·intro w'
              go_simp
              with_reducible rfl
             rotate_left
             ·simp only [Act.put, sA_, sB_, sC_, i64_w, i32_w]
              rfl
             refine pure_ (i := 4) (N := some 21) (v := ?_) (a' := ?_) L18_5 rfl rfl (any_of HT_.out (by kernel_rfl)) (fun _ _ _ h => h) (Or.inl ⟨by rfl, ?_⟩) ?_ ?_
             rotate_left
             ·intro w'
              go_simp
              with_reducible rfl
             rotate_left
             ·simp only [Act.put, sA_, sB_, sC_, i64_w, i32_w]
              rfl
             refine pure_ (i := 5) (N := some 22) (v := ?_) (a' := ?_) L18_6 rfl rfl (any_of HT_.out (by kernel_rfl)) (fun _ _ _ h => h) (Or.inl ⟨by rfl, ?_⟩) ?_ ?_
             rotate_left
             ·intro w'
              go_simp
              with_reducible rfl
             rotate_left
             ·simp only [Act.put, sA_, sB_, sC_, i64_w, i32_w]
              rfl
             refine pure_ (i := 6) (N := some 23) (v := ?_) (a' := ?_) L18_7 rfl rfl (any_of HT_.out (by kernel_rfl)) (fun _ _ _ h => h) (Or.inl ⟨by rfl, ?_⟩) ?_ ?_
             rotate_left
             ·intro w'
              go_simp
              with_reducible rfl
             rotate_left
             ·simp only [Act.put, sA_, sB_, sC_, i64_w, i32_w]
              rfl
             refine take_ (i := 7) (N := some 24) (v := ?_) (a' := ?_) L18_8 rfl rfl (take_ofW HT_.out HW_.out (by kernel_rfl)) (fun _ _ _ h => h) (Or.inl ⟨by rfl, ?_⟩) hHeld ?_ ?_
             rotate_left
             ·rintro w' ⟨s0, s1, s2, s3, s4, s5, s6, s7, s8, s9, s10, s11, s12, s13, s14⟩
              go_simp
              with_reducible rfl
             rotate_left
             ·simp only [Act.put, sA_, sB_, sC_, i64_w, i32_w]
              rfl
             refine pure_ (i := 8) (N := some 25) (v := ?_) (a' := ?_) L18_9 rfl rfl (any_of HT_.out (by kernel_rfl)) (fun _ _ _ h => h) (Or.inl ⟨by rfl, ?_⟩) ?_ ?_
             rotate_left
             ·intro w'
              go_simp
              with_reducible rfl
             rotate_left
             ·simp only [Act.put, sA_, sB_, sC_, i64_w, i32_w]
              rfl
             refine pure_ (i := 9) (N := some 26) (v := ?_) (a' := ?_) L18_10 rfl rfl (any_of HT_.out (by kernel_rfl)) (fun _ _ _ h => h) (Or.inl ⟨by rfl, ?_⟩) ?_ ?_
             rotate_left
             ·intro w'
              go_simp
              with_reducible rfl
             rotate_left
             ·simp only [Act.put, sA_, sB_, sC_, i64_w, i32_w]
              rfl
             refine pure_ (i := 10) (N := some 27) (v := ?_) (a' := ?_) L18_11 rfl rfl (any_of HT_.out (by kernel_rfl)) (fun _ _ _ h => h) (Or.inl ⟨by rfl, ?_⟩) ?_ ?_
             rotate_left
             ·intro w'
              go_simp
              with_reducible rfl
             rotate_left
             ·simp only [Act.put, sA_, sB_, sC_, i64_w, i32_w]
              rfl
             refine pure_ (i := 11) (N := some 28) (v := ?_) (a' := ?_) L18_14 rfl rfl (any_of HT_.out (by kernel_rfl)) (fun _ _ _ h => h) (Or.inl ⟨by rfl, ?_⟩) ?_ ?_
             rotate_left
             ·intro w'
              go_simp
              with_reducible rfl
             rotate_left
             ·simp only [Act.put, sA_, sB_, sC_, i64_w, i32_w]
              rfl
             refine pure_ (i := 12) (N := some 29) (v := ?_) (a' := ?_) L18_15 rfl rfl (any_of HT_.out (by kernel_rfl)) (fun _ _ _ h => h) (Or.inl ⟨by rfl, ?_⟩) ?_ ?_
             rotate_left
             ·intro w'
              go_simp
              with_reducible rfl
             rotate_left
             ·simp only [Act.put, sA_, sB_, sC_, i64_w, i32_w]
              rfl
             refine pure_ (i := 13) (N := some 30) (v := ?_) (a' := ?_) L18_16 rfl rfl (any_of HT_.out (by kernel_rfl)) (fun _ _ _ h => h) (Or.inl ⟨by rfl, ?_⟩) ?_ ?_
             rotate_left
             ·intro w'
              go_simp
              with_reducible rfl
             rotate_left
             ·simp only [Act.put, sA_, sB_, sC_, i64_w, i32_w]
              rfl
             refine pure_ (i := 14) (N := some 31) (v := ?_) (a' := ?_) L18_17 rfl rfl (any_of HT_.out (by kernel_rfl)) (fun _ _ _ h => h) (Or.inl ⟨by rfl, ?_⟩) ?_ ?_
             rotate_left
             ·intro w'
              go_simp
              with_reducible rfl
             rotate_left
             ·simp only [Act.put, sA_, sB_, sC_, i64_w, i32_w]
              rfl
             refine pure_ (i := 15) (N := some 32) (v := ?_) (a' := ?_) L18_18 rfl rfl (any_of HT_.out (by kernel_rfl)) (fun _ _ _ h => h) (Or.inl ⟨by rfl, ?_⟩) ?_ ?_
             rotate_left
             ·intro w'
              go_simp
              with_reducible rfl
             rotate_left
             ·simp only [Act.put, sA_, sB_, sC_, i64_w, i32_w]
              rfl
             refine pure_ (i := 16) (N := some 33) (v := ?_) (a' := ?_) L18_19 rfl rfl (any_of HT_.out (by kernel_rfl)) (fun _ _ _ h => h) (Or.inl ⟨by rfl, ?_⟩) ?_ ?_
             rotate_left
             ·intro w'
              go_simp
              with_reducible rfl
             rotate_left
             ·simp only [Act.put, sA_, sB_, sC_, i64_w, i32_w]
              rfl
             refine pure_ (i := 17) (N := some 34) (v := ?_) (a' := ?_) L18_20 rfl rfl (any_of HT_.out (by kernel_rfl)) (fun _ _ _ h => h) (Or.inl ⟨by rfl, ?_⟩) ?_ ?_
             rotate_left
             ·intro w'
              go_simp
              with_reducible rfl
             rotate_left
             ·simp only [Act.put, sA_, sB_, sC_, i64_w, i32_w]
              rfl
             refine pure_ (i := 19) (N := some 36) (v := ?_) (a' := ?_) L18_21 rfl rfl (any_of HT_.out (by kernel_rfl)) (fun _ _ _ h => h) (Or.inl ⟨by rfl, ?_⟩) ?_ ?_
             rotate_left
             ·intro w'
              go_simp
              with_reducible rfl
             rotate_left
             ·simp only [Act.put, sA_, sB_, sC_, i64_w, i32_w]
              rfl
             refine pure_ (i := 20) (N := some 37) (v := ?_) (a' := ?_) L18_22 rfl rfl (any_of HT_.out (by kernel_rfl)) (fun _ _ _ h => h) (Or.inl ⟨by rfl, ?_⟩) ?_ ?_
             rotate_left
             ·intro w'
              go_simp
              with_reducible rfl
             rotate_left
             ·simp only [Act.put, sA_, sB_, sC_, i64_w, i32_w]
              rfl
             refine pure_ (i := 21) (N := some 38) (v := ?_) (a' := ?_) L18_23 rfl rfl (any_of HT_.out (by kernel_rfl)) (fun _ _ _ h => h) (Or.inl ⟨by rfl, ?_⟩) ?_ ?_
             rotate_left
             ·intro w'
              go_simp
              with_reducible rfl
             rotate_left
             ·simp only [Act.put, sA_, sB_, sC_, i64_w, i32_w]
              rfl
             refine pure_ (i := 22) (N := some 39) (v := ?_) (a' := ?_) L18_24 rfl rfl (any_of HT_.out (by kernel_rfl)) (fun _ _ _ h => h) (Or.inl ⟨by rfl, ?_⟩) ?_ ?_
             rotate_left
             ·intro w'
              go_simp
              with_reducible rfl
             rotate_left
             ·simp only [Act.put, sA_, sB_, sC_, i64_w, i32_w]
              rfl
             refine pure_ (i := 23) (N := some 40) (v := ?_) (a' := ?_) L18_25 rfl rfl (any_of HT_.out (by kernel_rfl)) (fun _ _ _ h => h) (Or.inl ⟨by rfl, ?_⟩) ?_ ?_
             rotate_left
             ·intro w'
              go_simp
              with_reducible rfl
             rotate_left
             ·simp only [Act.put, sA_, sB_, sC_, i64_w, i32_w]
              rfl
             refine take_ (i := 18) (N := some 35) (v := ?_) (a' := ?_) L18_26 rfl rfl (take_ofW HT_.out HW_.out (by kernel_rfl)) (fun _ _ _ h => h) (Or.inl ⟨by rfl, ?_⟩) hHeld ?_ ?_
             rotate_left
             ·rintro w' ⟨s0, s1, s2, s3, s4, s5, s6, s7, s8, s9, s10, s11, s12, s13, s14⟩
              go_simp
              with_reducible rfl
             rotate_left
             ·simp only [Act.put, sA_, sB_, sC_, i64_w, i32_w]
              rfl
             refine take_ (i := 24) (N := some 41) (v := ?_) (a' := ?_) L18_27 rfl rfl (take_ofW HT_.out HW_.out (by kernel_rfl)) (fun _ _ _ h => h) (Or.inl ⟨by rfl, ?_⟩) hHeld ?_ ?_
             rotate_left
             ·rintro w' ⟨s0, s1, s2, s3, s4, s5, s6, s7, s8, s9, s10, s11, s12, s13, s14⟩
              go_simp
              with_reducible rfl
             rotate_left
             ·simp only [Act.put, sA_, sB_, sC_, i64_w, i32_w]
              rfl
             refine pure_ (i := 25) (N := some 42) (v := ?_) (a' := ?_) L18_28 rfl rfl (any_of HT_.out (by kernel_rfl)) (fun _ _ _ h => h) (Or.inl ⟨by rfl, ?_⟩) ?_ ?_
             rotate_left
             ·intro w'
              go_simp
              with_reducible rfl
             rotate_left
             ·simp only [Act.put, sA_, sB_, sC_, i64_w, i32_w]
              rfl
             refine pure_ (i := 26) (N := some 43) (v := ?_) (a' := ?_) L18_29 rfl rfl (any_of HT_.out (by kernel_rfl)) (fun _ _ _ h => h) (Or.inl ⟨by rfl, ?_⟩) ?_ ?_
             rotate_left
             ·intro w'
              go_simp
              with_reducible rfl
             rotate_left
             ·simp only [Act.put, sA_, sB_, sC_, i64_w, i32_w]
              rfl
             refine pure_ (i := 27) (N := some 44) (v := ?_) (a' := ?_) L18_32 rfl rfl (any_of HT_.out (by kernel_rfl)) (fun _ _ _ h => h) (Or.inl ⟨by rfl, ?_⟩) ?_ ?_
             rotate_left
             ·intro w'
              go_simp
              with_reducible rfl
             rotate_left
             ·simp only [Act.put, sA_, sB_, sC_, i64_w, i32_w]
              rfl
             refine pure_ (i := 28) (N := some 45) (v := ?_) (a' := ?_) L18_33 rfl rfl (any_of HT_.out (by kernel_rfl)) (fun _ _ _ h => h) (Or.inl ⟨by rfl, ?_⟩) ?_ ?_
             rotate_left
             ·intro w'
              go_simp
              with_reducible rfl
             rotate_left
             ·simp only [Act.put, sA_, sB_, sC_, i64_w, i32_w]
              rfl
             refine pure_ (i := 29) (N := some 46) (v := ?_) (a' := ?_) L18_34 rfl rfl (any_of HT_.out (by kernel_rfl)) (fun _ _ _ h => h) (Or.inl ⟨by rfl, ?_⟩) ?_ ?_
             rotate_left
             ·intro w'
              go_simp
              with_reducible rfl
             rotate_left
             ·simp only [Act.put, sA_, sB_, sC_, i64_w, i32_w]
              rfl
             refine pure_ (i := 30) (N := some 47) (v := ?_) (a' := ?_) L18_35 rfl rfl (any_of HT_.out (by kernel_rfl)) (fun _ _ _ h => h) (Or.inl ⟨by rfl, ?_⟩) ?_ ?_
             rotate_left
             ·intro w'
              go_simp
              with_reducible rfl
             rotate_left
             ·simp only [Act.put, sA_, sB_, sC_, i64_w, i32_w]
              rfl
             refine pure_ (i := 31) (N := some 48) (v := ?_) (a' := ?_) L18_36 rfl rfl (any_of HT_.out (by kernel_rfl)) (fun _ _ _ h => h) (Or.inl ⟨by rfl, ?_⟩) ?_ ?_
             rotate_left
             ·intro w'
              go_simp
              with_reducible rfl
             rotate_left
             ·simp only [Act.put, sA_, sB_, sC_, i64_w, i32_w]
              rfl
             refine pure_ (i := 33) (N := some 50) (v := ?_) (a' := ?_) L18_37 rfl rfl (any_of HT_.out (by kernel_rfl)) (fun _ _ _ h => h) (Or.inl ⟨by rfl, ?_⟩) ?_ ?_
             rotate_left
             ·intro w'
              go_simp
              with_reducible rfl
             rotate_left
             ·simp only [Act.put, sA_, sB_, sC_, i64_w, i32_w]
              rfl
             refine pure_ (i := 34) (N := some 51) (v := ?_) (a' := ?_) L18_38 rfl rfl (any_of HT_.out (by kernel_rfl)) (fun _ _ _ h => h) (Or.inl ⟨by rfl, ?_⟩) ?_ ?_
             rotate_left
             ·intro w'
              go_simp
              with_reducible rfl
             rotate_left
             ·simp only [Act.put, sA_, sB_, sC_, i64_w, i32_w]
              rfl
             refine pure_ (i := 35) (N := some 52) (v := ?_) (a' := ?_) L18_39 rfl rfl (any_of HT_.out (by kernel_rfl)) (fun _ _ _ h => h) (Or.inl ⟨by rfl, ?_⟩) ?_ ?_
             rotate_left
             ·intro w'
              go_simp
              with_reducible rfl
             rotate_left
             ·simp only [Act.put, sA_, sB_, sC_, i64_w, i32_w]
              rfl
             refine pure_ (i := 36) (N := some 53) (v := ?_) (a' := ?_) L18_40 rfl rfl (any_of HT_.out (by kernel_rfl)) (fun _ _ _ h => h) (Or.inl ⟨by rfl, ?_⟩) ?_ ?_
             rotate_left
             ·intro w'
              go_simp
              with_reducible rfl
             rotate_left
             ·simp only [Act.put, sA_, sB_, sC_, i64_w, i32_w]
              rfl
             refine take_ (i := 32) (N := some 49) (v := ?_) (a' := ?_) L18_41 rfl rfl (take_ofW HT_.out HW_.out (by kernel_rfl)) (fun _ _ _ h => h) (Or.inl ⟨by rfl, ?_⟩) hHeld ?_ ?_
             rotate_left
             ·rintro w' ⟨s0, s1, s2, s3, s4, s5, s6, s7, s8, s9, s10, s11, s12, s13, s14⟩
              go_simp
              with_reducible rfl
             rotate_left
             ·simp only [Act.put, sA_, sB_, sC_, i64_w, i32_w]
              rfl
             refine take_ (i := 37) (N := some 54) (v := ?_) (a' := ?_) L18_42 rfl rfl (take_ofW HT_.out HW_.out (by kernel_rfl)) (fun _ _ _ h => h) (Or.inl ⟨by rfl, ?_⟩) hHeld ?_ ?_
             rotate_left
             ·rintro w' ⟨s0, s1, s2, s3, s4, s5, s6, s7, s8, s9, s10, s11, s12, s13, s14⟩
              go_simp
              with_reducible rfl
             rotate_left
             ·simp only [Act.put, sA_, sB_, sC_, i64_w, i32_w]
              rfl
             refine one_ (i := 38) (N := some 55) L18_43 rfl rfl (one_of HT_.out (by kernel_rfl)) (by decide) (fun K hK => ?_)
             refine goes_ Try.func23 (by kernel_rfl) rfl #[.slice A240_1 ((rd_T41 l0 x3_1).f1.f0).length c240_1, .slice A244_1 ((rd_T41 l0 0).f1.f0).length c244_1] (by rfl) rfl rfl (by (try simp only [List.map_toArray, List.map_cons, List.map_nil]); first | done | rfl | (simp only [List.length_drop, List.length_take]; rfl)) ?_
             with_reducible refine (fullerref02_Same.calls k1 _ _ ((rd_T41 l0 x3_1).f1.f0) _ _ ((rd_T41 l0 0).f1.f0) true _ ?side1 ?side2 ?side3 ?side4 A17.out).mono ?_
             (case side1 => repeat (first | exact (Kd.C_below HR243_1.out HB.out) | (with_reducible refine Kd.C_alloc ?_ _) | (with_reducible refine Kd.C_drewN ?_ _) | (with_reducible refine Kd.C_drew ?_)))
             (case side2 => exact HC243_1.out)
             (case side3 => repeat (first | exact (Kd.C_below HR244_1.out HB.out) | (with_reducible refine Kd.C_alloc ?_ _) | (with_reducible refine Kd.C_drewN ?_ _) | (with_reducible refine Kd.C_drew ?_)))
             (case side4 => exact HC244_1.out)
             rintro e w' ⟨rfl, ⟨nd, rfl⟩⟩
             refine ⟨_, rfl, ?_⟩
             refine hK.out _ _ ⟨((HB.out.cell (World.block_lt_of_cell? w _ hw240_0)).trans hw240_0), ((HB.out.cell (World.block_lt_of_cell? w _ hw240_1)).trans hw240_1), ((HB.out.cell (World.block_lt_of_cell? w _ hw240_2)).trans hw240_2), ((HB.out.cell (World.block_lt_of_cell? w _ hw241_0)).trans hw241_0), ((HB.out.cell (World.block_lt_of_cell? w _ hw241_1)).trans hw241_1), ((HB.out.cell (World.block_lt_of_cell? w _ hw241_2)).trans hw241_2), ((HB.out.cell (World.block_lt_of_cell? w _ hw242_0)).trans hw242_0), ((HB.out.cell (World.block_lt_of_cell? w _ hw242_1)).trans hw242_1), ((HB.out.cell (World.block_lt_of_cell? w _ hw242_2)).trans hw242_2), ((HB.out.cell (World.block_lt_of_cell? w _ hw243_0)).trans hw243_0), ((HB.out.cell (World.block_lt_of_cell? w _ hw243_1)).trans hw243_1), ((HB.out.cell (World.block_lt_of_cell? w _ hw243_2)).trans hw243_2), ((HB.out.cell (World.block_lt_of_cell? w _ hw244_0)).trans hw244_0), ((HB.out.cell (World.block_lt_of_cell? w _ hw244_1)).trans hw244_1), ((HB.out.cell (World.block_lt_of_cell? w _ hw244_2)).trans hw244_2)⟩ (fun hHeld => ?_)
             clear hK K
             refine norm_ (a' := ?_) ?_ ?_
             rotate_left
             ·show Act.put _ (some 55) _ = _
              simp only [Act.put, sA_, sB_, sC_, i64_w, i32_w]
              rfl
             refine pure_ (i := 39) (N := some 56) (v := ?_) (a' := ?_) L18_30 rfl rfl (any_of HT_.out (by kernel_rfl)) (fun _ _ _ h => h) (Or.inl ⟨by rfl, ?_⟩) ?_ ?_
             rotate_left
             ·intro w'
              go_simp
              with_reducible rfl
             rotate_left
             ·simp only [Act.put, sA_, sB_, sC_, i64_w, i32_w]
              rfl
             refine pure_ (i := 40) (N := some 57) (v := ?_) (a' := ?_) L18_31 rfl rfl (any_of HT_.out (by kernel_rfl)) (fun _ _ _ h => h) (Or.inl ⟨by rfl, ?_⟩) ?_ ?_
             rotate_left
             ·intro w'
              go_simp
              with_reducible rfl
             rotate_left
             ·simp only [Act.put, sA_, sB_, sC_, i64_w, i32_w]
              rfl
             refine pure_ (i := 41) (N := some 58) (v := ?_) (a' := ?_) L18_12 rfl rfl (any_of HT_.out (by kernel_rfl)) (fun _ _ _ h => h) (Or.inl ⟨by rfl, ?_⟩) ?_ ?_
             rotate_left
             ·intro w'
              go_simp
              with_reducible rfl
             rotate_left
             ·simp only [Act.put, sA_, sB_, sC_, i64_w, i32_w]
              rfl
             refine pure_ (i := 42) (N := some 59) (v := ?_) (a' := ?_) L18_13 rfl rfl (any_of HT_.out (by kernel_rfl)) (fun _ _ _ h => h) (Or.inl ⟨by rfl, ?_⟩) ?_ ?_
             rotate_left
             ·intro w'
              go_simp
              with_reducible rfl
             rotate_left
             ·simp only [Act.put, sA_, sB_, sC_, i64_w, i32_w]
              rfl
             refine done_ (done_of HT_.out (by kernel_rfl)) ?_
             try go_wp2
             go_roundg k1
             case measure => have := HK1.out; omega
             case rel => exact ⟨(wrap64 (x3_1 + 1)), (by first | rfl | (simp; done) | (simp [*]; done)), H', ⟨by have := HK1.out; omega⟩, ⟨by repeat (first | (with_reducible first | exact HB.out | apply below_alloc | apply pw_below_drewN | apply below_drew1) | exact HB.out)⟩⟩
            ·replace c18 := Bool.eq_false_iff.mpr c18
             subst c18
             have H1 : (some false) = some r := by rw [if_neg (show ¬ (false = true) by decide)] at H; exact H
             clear H
             have H := H1
             clear H1
             obtain rfl := Option.some.inj H
             have p238 : 0 ≤ (x3_1 : Int) := of_decide_eq_true (by first | (with_reducible assumption) | assumption)
             have q238 : x3_1 < (l0.length : Int) := of_decide_eq_true (by first | (with_reducible assumption) | assumption)
             obtain ⟨ad238, A238_1, c238_1, A238_2, c238_2, e238, hx238_0, hx238_1, hx238_2, hl238_1, hi238_1, hl238_2, hi238_2⟩ := at_T41 HR0.out x3_1 p238 q238
             cases e238
             replace hx238_0 := (HB.out.cell (World.block_lt_of_cell? w _ hx238_0)).trans hx238_0
             replace hx238_1 := (HB.out.cell (World.block_lt_of_cell? w _ hx238_1)).trans hx238_1
             replace hx238_2 := (HB.out.cell (World.block_lt_of_cell? w _ hx238_2)).trans hx238_2
             have HR238_1 := Aside0.mk hi238_1
             have HC238_1 := Aside0.mk hl238_1
             clear hi238_1 hl238_1
             have HR238_2 := Aside0.mk hi238_2
             have HC238_2 := Aside0.mk hl238_2
             clear hi238_2 hl238_2
             replace p238 := eq_true p238
             replace q238 := eq_true q238
             try go_wp2_with (first | ((with_reducible refine gate_callee (f := 30) rfl ?_); refine goesL_ (some 16) rfl rfl Try.func30 (by kernel_rfl) rfl #[.agg #[.slice A238_1 ((rd_T41 l0 x3_1).f1.f0).length c238_1, .slice A238_2 ((rd_T41 l0 x3_1).f1.f1).length c238_2]] rfl (by (try simp only [List.map_toArray, List.map_cons, List.map_nil]); first | done | rfl | (simp only [List.length_drop, List.length_take]; rfl)) ?_; (with_reducible refine (fullerref03_Check.calls k1 _ _ ((rd_T41 l0 x3_1).f1.f0) _ _ ((rd_T41 l0 x3_1).f1.f1) true _ ?side1 ?side2 ?side3 ?side4 A4.out).mono ?_); (case side1 => repeat (first | exact (Kd.C_below HR238_1.out HB.out) | (with_reducible refine Kd.C_alloc ?_ _) | (with_reducible refine Kd.C_drewN ?_ _) | (with_reducible refine Kd.C_drew ?_))); (case side2 => exact HC238_1.out); (case side3 => repeat (first | exact (Kd.C_below HR238_2.out HB.out) | (with_reducible refine Kd.C_alloc ?_ _) | (with_reducible refine Kd.C_drewN ?_ _) | (with_reducible refine Kd.C_drew ?_))); (case side4 => exact HC238_2.out); rintro e w21 ⟨rfl, hb⟩; refine ⟨_, rfl, ?_⟩; have n0_ := Aside0.mk (below_step (bq0_ HB.out) hb); clear HB; have HB := n0_; clear n0_; (try clear hb); (try clear hb2); (try clear hk); (try clear hi)))
             have n0_ := Aside0.mk (below_drew1 HB.out)
             clear HB
             have HB := n0_
             clear n0_
             have p240 : 0 ≤ (x3_1 : Int) := of_decide_eq_true (by first | (with_reducible assumption) | assumption)
             have q240 : x3_1 < (l0.length : Int) := of_decide_eq_true (by first | (with_reducible assumption) | assumption)
             obtain ⟨ad240, A240_1, c240_1, A240_2, c240_2, e240, hx240_0, hx240_1, hx240_2, hl240_1, hi240_1, hl240_2, hi240_2⟩ := at_T41 HR0.out x3_1 p240 q240
             have hw240_2 := hx240_2
             have hw240_1 := hx240_1
             have hw240_0 := hx240_0
             obtain rfl : ad238 = ad240 := (by injection e240)
             replace hx240_0 := (HB.out.cell (World.block_lt_of_cell? w _ hx240_0)).trans hx240_0
             replace hx240_1 := (HB.out.cell (World.block_lt_of_cell? w _ hx240_1)).trans hx240_1
             replace hx240_2 := (HB.out.cell (World.block_lt_of_cell? w _ hx240_2)).trans hx240_2
             have HR240_1 := Aside0.mk hi240_1
             have HC240_1 := Aside0.mk hl240_1
             clear hi240_1 hl240_1
             have HR240_2 := Aside0.mk hi240_2
             have HC240_2 := Aside0.mk hl240_2
             clear hi240_2 hl240_2
             replace p240 := eq_true p240
             replace q240 := eq_true q240
             have p241 : 0 ≤ (x3_1 : Int) := of_decide_eq_true (by first | (with_reducible assumption) | assumption)
             have q241 : x3_1 < (l0.length : Int) := of_decide_eq_true (by first | (with_reducible assumption) | assumption)
             obtain ⟨ad241, A241_1, c241_1, A241_2, c241_2, e241, hx241_0, hx241_1, hx241_2, hl241_1, hi241_1, hl241_2, hi241_2⟩ := at_T41 HR0.out x3_1 p241 q241
             have hw241_2 := hx241_2
             have hw241_1 := hx241_1
             have hw241_0 := hx241_0
             obtain rfl : ad238 = ad241 := (by injection e241)
             replace hx241_0 := (HB.out.cell (World.block_lt_of_cell? w _ hx241_0)).trans hx241_0
             replace hx241_1 := (HB.out.cell (World.block_lt_of_cell? w _ hx241_1)).trans hx241_1
             replace hx241_2 := (HB.out.cell (World.block_lt_of_cell? w _ hx241_2)).trans hx241_2
             have HR241_1 := Aside0.mk hi241_1
             have HC241_1 := Aside0.mk hl241_1
             clear hi241_1 hl241_1
             have HR241_2 := Aside0.mk hi241_2
             have HC241_2 := Aside0.mk hl241_2
             clear hi241_2 hl241_2
             replace p241 := eq_true p241
             replace q241 := eq_true q241
             have ea_ := Option.some.inj (hx240_1.symm.trans hx241_1)
             injection ea_ with ea_ en_ ec_
             subst ea_
             subst ec_
             clear en_
             have ea_ := Option.some.inj (hx240_2.symm.trans hx241_2)
             injection ea_ with ea_ en_ ec_
             subst ea_
             subst ec_
             clear en_
             have p242 : 0 ≤ ((ji10) : Int) := of_decide_eq_true (by first | (with_reducible assumption) | assumption)
             have q242 : (ji10) < (l0.length : Int) := of_decide_eq_true (by first | (with_reducible assumption) | assumption)
             obtain ⟨ad242, A242_1, c242_1, A242_2, c242_2, e242, hx242_0, hx242_1, hx242_2, hl242_1, hi242_1, hl242_2, hi242_2⟩ := at_T41 HR0.out (ji10) p242 q242
             have hw242_2 := hx242_2
             have hw242_1 := hx242_1
             have hw242_0 := hx242_0
             obtain rfl : ad238 = ad242 := (by injection e242)
             replace hx242_0 := (HB.out.cell (World.block_lt_of_cell? w _ hx242_0)).trans hx242_0
             replace hx242_1 := (HB.out.cell (World.block_lt_of_cell? w _ hx242_1)).trans hx242_1
             replace hx242_2 := (HB.out.cell (World.block_lt_of_cell? w _ hx242_2)).trans hx242_2
             have HR242_1 := Aside0.mk hi242_1
             have HC242_1 := Aside0.mk hl242_1
             clear hi242_1 hl242_1
             have HR242_2 := Aside0.mk hi242_2
             have HC242_2 := Aside0.mk hl242_2
             clear hi242_2 hl242_2
             replace p242 := eq_true p242
             replace q242 := eq_true q242
             have p243 : 0 ≤ (x3_1 : Int) := of_decide_eq_true (by first | (with_reducible assumption) | assumption)
             have q243 : x3_1 < (l0.length : Int) := of_decide_eq_true (by first | (with_reducible assumption) | assumption)
             obtain ⟨ad243, A243_1, c243_1, A243_2, c243_2, e243, hx243_0, hx243_1, hx243_2, hl243_1, hi243_1, hl243_2, hi243_2⟩ := at_T41 HR0.out x3_1 p243 q243
             have hw243_2 := hx243_2
             have hw243_1 := hx243_1
             have hw243_0 := hx243_0
             obtain rfl : ad238 = ad243 := (by injection e243)
             replace hx243_0 := (HB.out.cell (World.block_lt_of_cell? w _ hx243_0)).trans hx243_0
             replace hx243_1 := (HB.out.cell (World.block_lt_of_cell? w _ hx243_1)).trans hx243_1
             replace hx243_2 := (HB.out.cell (World.block_lt_of_cell? w _ hx243_2)).trans hx243_2
             have HR243_1 := Aside0.mk hi243_1
             have HC243_1 := Aside0.mk hl243_1
             clear hi243_1 hl243_1
             have HR243_2 := Aside0.mk hi243_2
             have HC243_2 := Aside0.mk hl243_2
             clear hi243_2 hl243_2
             replace p243 := eq_true p243
             replace q243 := eq_true q243
             have ea_ := Option.some.inj (hx240_1.symm.trans hx243_1)
             injection ea_ with ea_ en_ ec_
             subst ea_
             subst ec_
             clear en_
             have ea_ := Option.some.inj (hx240_2.symm.trans hx243_2)
             injection ea_ with ea_ en_ ec_
             subst ea_
             subst ec_
             clear en_
             have p244 : 0 ≤ (0 : Int) := (by omega)
             have q244 : 0 < (l0.length : Int) := of_decide_eq_true (by first | (with_reducible assumption) | assumption)
             obtain ⟨ad244, A244_1, c244_1, A244_2, c244_2, e244, hx244_0, hx244_1, hx244_2, hl244_1, hi244_1, hl244_2, hi244_2⟩ := at_T41 HR0.out 0 p244 q244
             have hw244_2 := hx244_2
             (try rw [show ((0 : Int)).toNat = 0 from rfl] at hw244_2)
             (try rw [show 0 * 3 = 0 from rfl] at hw244_2)
             (try rw [Addr.add_zero'] at hw244_2)
             have hw244_1 := hx244_1
             (try rw [show ((0 : Int)).toNat = 0 from rfl] at hw244_1)
             (try rw [show 0 * 3 = 0 from rfl] at hw244_1)
             (try rw [Addr.add_zero'] at hw244_1)
             have hw244_0 := hx244_0
             (try rw [show ((0 : Int)).toNat = 0 from rfl] at hw244_0)
             (try rw [show 0 * 3 = 0 from rfl] at hw244_0)
             (try rw [Addr.add_zero'] at hw244_0)
             obtain rfl : ad238 = ad244 := (by injection e244)
             have qi244 : (0 < l0.length) = True := eq_true (by omega)
             (try rw [show ((0 : Int)).toNat = 0 from rfl] at hx244_0)
             (try rw [show 0 * 3 = 0 from rfl] at hx244_0)
             (try rw [Addr.add_zero'] at hx244_0)
             (try rw [show ((0 : Int)).toNat = 0 from rfl] at hx244_1)
             (try rw [show 0 * 3 = 0 from rfl] at hx244_1)
             (try rw [Addr.add_zero'] at hx244_1)
             (try rw [show ((0 : Int)).toNat = 0 from rfl] at hx244_2)
             (try rw [show 0 * 3 = 0 from rfl] at hx244_2)
             (try rw [Addr.add_zero'] at hx244_2)
             replace hx244_0 := (HB.out.cell (World.block_lt_of_cell? w _ hx244_0)).trans hx244_0
             replace hx244_1 := (HB.out.cell (World.block_lt_of_cell? w _ hx244_1)).trans hx244_1
             replace hx244_2 := (HB.out.cell (World.block_lt_of_cell? w _ hx244_2)).trans hx244_2
             have HR244_1 := Aside0.mk hi244_1
             have HC244_1 := Aside0.mk hl244_1
             clear hi244_1 hl244_1
             have HR244_2 := Aside0.mk hi244_2
             have HC244_2 := Aside0.mk hl244_2
             clear hi244_2 hl244_2
             replace p244 := eq_true p244
             replace q244 := eq_true q244
             refine start_ (n := 43) (S := fun w' => w'.cell? (ad238.add ((x3_1).toNat * 3)) = some (.int .i64 ((rd_T41 l0 x3_1).f0)) ∧ w'.cell? ⟨(ad238.add ((x3_1).toNat * 3)).block, (ad238.add ((x3_1).toNat * 3)).off + 1, none⟩ = some (.slice A240_1 ((rd_T41 l0 x3_1).f1.f0).length c240_1) ∧ w'.cell? ⟨(ad238.add ((x3_1).toNat * 3)).block, (ad238.add ((x3_1).toNat * 3)).off + 2, none⟩ = some (.slice A240_2 ((rd_T41 l0 x3_1).f1.f1).length c240_2) ∧ w'.cell? (ad238.add ((x3_1).toNat * 3)) = some (.int .i64 ((rd_T41 l0 x3_1).f0)) ∧ w'.cell? ⟨(ad238.add ((x3_1).toNat * 3)).block, (ad238.add ((x3_1).toNat * 3)).off + 1, none⟩ = some (.slice A240_1 ((rd_T41 l0 x3_1).f1.f0).length c240_1) ∧ w'.cell? ⟨(ad238.add ((x3_1).toNat * 3)).block, (ad238.add ((x3_1).toNat * 3)).off + 2, none⟩ = some (.slice A240_2 ((rd_T41 l0 x3_1).f1.f1).length c240_2) ∧ w'.cell? (ad238.add (((ji10)).toNat * 3)) = some (.int .i64 ((rd_T41 l0 (ji10)).f0)) ∧ w'.cell? ⟨(ad238.add (((ji10)).toNat * 3)).block, (ad238.add (((ji10)).toNat * 3)).off + 1, none⟩ = some (.slice A242_1 ((rd_T41 l0 (ji10)).f1.f0).length c242_1) ∧ w'.cell? ⟨(ad238.add (((ji10)).toNat * 3)).block, (ad238.add (((ji10)).toNat * 3)).off + 2, none⟩ = some (.slice A242_2 ((rd_T41 l0 (ji10)).f1.f1).length c242_2) ∧ w'.cell? (ad238.add ((x3_1).toNat * 3)) = some (.int .i64 ((rd_T41 l0 x3_1).f0)) ∧ w'.cell? ⟨(ad238.add ((x3_1).toNat * 3)).block, (ad238.add ((x3_1).toNat * 3)).off + 1, none⟩ = some (.slice A240_1 ((rd_T41 l0 x3_1).f1.f0).length c240_1) ∧ w'.cell? ⟨(ad238.add ((x3_1).toNat * 3)).block, (ad238.add ((x3_1).toNat * 3)).off + 2, none⟩ = some (.slice A240_2 ((rd_T41 l0 x3_1).f1.f1).length c240_2) ∧ w'.cell? ad238 = some (.int .i64 ((rd_T41 l0 0).f0)) ∧ w'.cell? ⟨ad238.block, ad238.off + 1, none⟩ = some (.slice A244_1 ((rd_T41 l0 0).f1.f0).length c244_1) ∧ w'.cell? ⟨ad238.block, ad238.off + 2, none⟩ = some (.slice A244_2 ((rd_T41 l0 0).f1.f1).length c244_2)) (ds := []) L18_0 (by kernel_rfl) rfl rfl ⟨((HB.out.cell (World.block_lt_of_cell? w _ hw240_0)).trans hw240_0), ((HB.out.cell (World.block_lt_of_cell? w _ hw240_1)).trans hw240_1), ((HB.out.cell (World.block_lt_of_cell? w _ hw240_2)).trans hw240_2), ((HB.out.cell (World.block_lt_of_cell? w _ hw241_0)).trans hw241_0), ((HB.out.cell (World.block_lt_of_cell? w _ hw241_1)).trans hw241_1), ((HB.out.cell (World.block_lt_of_cell? w _ hw241_2)).trans hw241_2), ((HB.out.cell (World.block_lt_of_cell? w _ hw242_0)).trans hw242_0), ((HB.out.cell (World.block_lt_of_cell? w _ hw242_1)).trans hw242_1), ((HB.out.cell (World.block_lt_of_cell? w _ hw242_2)).trans hw242_2), ((HB.out.cell (World.block_lt_of_cell? w _ hw243_0)).trans hw243_0), ((HB.out.cell (World.block_lt_of_cell? w _ hw243_1)).trans hw243_1), ((HB.out.cell (World.block_lt_of_cell? w _ hw243_2)).trans hw243_2), ((HB.out.cell (World.block_lt_of_cell? w _ hw244_0)).trans hw244_0), ((HB.out.cell (World.block_lt_of_cell? w _ hw244_1)).trans hw244_1), ((HB.out.cell (World.block_lt_of_cell? w _ hw244_2)).trans hw244_2)⟩ (fun hHeld => ?_); refine with_tabW fullerref17_Check.tab5 fullerref17_Check.bits5 (fun HT_ HW_ => ?_)
             generalize w21.drew = w22 at HB HR240_1 HR240_2 HR241_1 HR241_2 HR242_1 HR242_2 HR243_1 HR243_2 HR244_1 HR244_2 hx240_0 hx240_1 hx240_2 hx241_0 hx241_1 hx241_2 hx242_0 hx242_1 hx242_2 hx243_0 hx243_1 hx243_2 hx244_0 hx244_1 hx244_2 hHeld ⊢
             refine pure_ (i := 0) (N := some 17) (v := ?_) (a' := ?_) L18_1 rfl rfl (any_of HT_.out (by kernel_rfl)) (fun _ _ _ h => h) (Or.inl ⟨by rfl, ?_⟩) ?_ ?_
             rotate_left
             ·intro w'
              go_simp
              with_reducible rfl
             rotate_left
             ·simp only [Act.put, sA_, sB_, sC_, i64_w, i32_w]
              rfl
             refine pure_ (i := 1) (N := some 18) (v := ?_) (a' := ?_) L18_2 rfl rfl (any_of HT_.out (by kernel_rfl)) (fun _ _ _ h => h) (Or.inl ⟨by rfl, ?_⟩) ?_ ?_
             rotate_left
             ·intro w'
              go_simp
              with_reducible rfl
             rotate_left
             ·simp only [Act.put, sA_, sB_, sC_, i64_w, i32_w]
              rfl
             refine pure_ (i := 2) (N := some 19) (v := ?_) (a' := ?_) L18_3 rfl rfl (any_of HT_.out (by kernel_rfl)) (fun _ _ _ h => h) (Or.inl ⟨by rfl, ?_⟩) ?_ ?_
             rotate_left
             ·intro w'
              go_simp
              with_reducible rfl
             rotate_left
             ·simp only [Act.put, sA_, sB_, sC_, i64_w, i32_w]
              rfl
             refine pure_ (i := 3) (N := some 20) (v := ?_) (a' := ?_) L18_4 rfl rfl (any_of HT_.out (by kernel_rfl)) (fun _ _ _ h => h) (Or.inl ⟨by rfl, ?_⟩) ?_ ?_
             rotate_left
             ·intro w'
              go_simp
              with_reducible rfl
             rotate_left
             ·simp only [Act.put, sA_, sB_, sC_, i64_w, i32_w]
              rfl
             refine pure_ (i := 4) (N := some 21) (v := ?_) (a' := ?_) L18_5 rfl rfl (any_of HT_.out (by kernel_rfl)) (fun _ _ _ h => h) (Or.inl ⟨by rfl, ?_⟩) ?_ ?_
             rotate_left
             ·intro w'
              go_simp
              with_reducible rfl
             rotate_left
             ·simp only [Act.put, sA_, sB_, sC_, i64_w, i32_w]
              rfl
             refine pure_ (i := 5) (N := some 22) (v := ?_) (a' := ?_) L18_6 rfl rfl (any_of HT_.out (by kernel_rfl)) (fun _ _ _ h => h) (Or.inl ⟨by rfl, ?_⟩) ?_ ?_
             rotate_left
             ·intro w'
              go_simp
              with_reducible rfl
             rotate_left
             ·simp only [Act.put, sA_, sB_, sC_, i64_w, i32_w]
              rfl
             refine pure_ (i := 6) (N := some 23) (v := ?_) (a' := ?_) L18_7 rfl rfl (any_of HT_.out (by kernel_rfl)) (fun _ _ _ h => h) (Or.inl ⟨by rfl, ?_⟩) ?_ ?_
             rotate_left
             ·intro w'
              go_simp
              with_reducible rfl
             rotate_left
             ·simp only [Act.put, sA_, sB_, sC_, i64_w, i32_w]
              rfl
             refine take_ (i := 7) (N := some 24) (v := ?_) (a' := ?_) L18_8 rfl rfl (take_ofW HT_.out HW_.out (by kernel_rfl)) (fun _ _ _ h => h) (Or.inl ⟨by rfl, ?_⟩) hHeld ?_ ?_
             rotate_left
             ·rintro w' ⟨s0, s1, s2, s3, s4, s5, s6, s7, s8, s9, s10, s11, s12, s13, s14⟩
              go_simp
              with_reducible rfl
             rotate_left
             ·simp only [Act.put, sA_, sB_, sC_, i64_w, i32_w]
              rfl
             refine pure_ (i := 8) (N := some 25) (v := ?_) (a' := ?_) L18_9 rfl rfl (any_of HT_.out (by kernel_rfl)) (fun _ _ _ h => h) (Or.inl ⟨by rfl, ?_⟩) ?_ ?_
             rotate_left
             ·intro w'
              go_simp
              with_reducible rfl
             rotate_left
             ·simp only [Act.put, sA_, sB_, sC_, i64_w, i32_w]
              rfl
             refine pure_ (i := 9) (N := some 26) (v := ?_) (a' := ?_) L18_10 rfl rfl (any_of HT_.out (by kernel_rfl)) (fun _ _ _ h => h) (Or.inl ⟨by rfl, ?_⟩) ?_ ?_
             rotate_left
             ·intro w'
              go_simp
              with_reducible rfl
             rotate_left
             ·simp only [Act.put, sA_, sB_, sC_, i64_w, i32_w]
              rfl
             refine pure_ (i := 10) (N := some 27) (v := ?_) (a' := ?_) L18_11 rfl rfl (any_of HT_.out (by kernel_rfl)) (fun _ _ _ h => h) (Or.inl ⟨by rfl, ?_⟩) ?_ ?_
             rotate_left
             ·intro w'
              go_simp
              with_reducible rfl
             rotate_left
             ·simp only [Act.put, sA_, sB_, sC_, i64_w, i32_w]
              rfl
             refine pure_ (i := 11) (N := some 28) (v := ?_) (a' := ?_) L18_14 rfl rfl (any_of HT_.out (by kernel_rfl)) (fun _ _ _ h => h) (Or.inl ⟨by rfl, ?_⟩) ?_ ?_
             rotate_left
             ·intro w'
              go_simp
              with_reducible rfl
             rotate_left
             ·simp only [Act.put, sA_, sB_, sC_, i64_w, i32_w]
              rfl
             refine pure_ (i := 12) (N := some 29) (v := ?_) (a' := ?_) L18_15 rfl rfl (any_of HT_.out (by kernel_rfl)) (fun _ _ _ h => h) (Or.inl ⟨by rfl, ?_⟩) ?_ ?_
             rotate_left
             ·intro w'
              go_simp
              with_reducible rfl
             rotate_left
             ·simp only [Act.put, sA_, sB_, sC_, i64_w, i32_w]
              rfl
             refine pure_ (i := 13) (N := some 30) (v := ?_) (a' := ?_) L18_16 rfl rfl (any_of HT_.out (by kernel_rfl)) (fun _ _ _ h => h) (Or.inl ⟨by rfl, ?_⟩) ?_ ?_
             rotate_left
             ·intro w'
              go_simp
              with_reducible rfl
             rotate_left
             ·simp only [Act.put, sA_, sB_, sC_, i64_w, i32_w]
              rfl
             refine pure_ (i := 14) (N := some 31) (v := ?_) (a' := ?_) L18_17 rfl rfl (any_of HT_.out (by kernel_rfl)) (fun _ _ _ h => h) (Or.inl ⟨by rfl, ?_⟩) ?_ ?_
             rotate_left
             ·intro w'
              go_simp
              with_reducible rfl
             rotate_left
             ·simp only [Act.put, sA_, sB_, sC_, i64_w, i32_w]
              rfl
             refine pure_ (i := 15) (N := some 32) (v := ?_) (a' := ?_) L18_18 rfl rfl (any_of HT_.out (by kernel_rfl)) (fun _ _ _ h => h) (Or.inl ⟨by rfl, ?_⟩) ?_ ?_
             rotate_left
             ·intro w'
              go_simp
              with_reducible rfl
             rotate_left
             ·simp only [Act.put, sA_, sB_, sC_, i64_w, i32_w]
              rfl
             refine pure_ (i := 16) (N := some 33) (v := ?_) (a' := ?_) L18_19 rfl rfl (any_of HT_.out (by kernel_rfl)) (fun _ _ _ h => h) (Or.inl ⟨by rfl, ?_⟩) ?_ ?_
             rotate_left
             ·intro w'
              go_simp
              with_reducible rfl
             rotate_left
             ·simp only [Act.put, sA_, sB_, sC_, i64_w, i32_w]
              rfl
             refine pure_ (i := 17) (N := some 34) (v := ?_) (a' := ?_) L18_20 rfl rfl (any_of HT_.out (by kernel_rfl)) (fun _ _ _ h => h) (Or.inl ⟨by rfl, ?_⟩) ?_ ?_
             rotate_left
             ·intro w'
              go_simp
              with_reducible rfl
             rotate_left
             ·simp only [Act.put, sA_, sB_, sC_, i64_w, i32_w]
              rfl
             refine pure_ (i := 19) (N := some 36) (v := ?_) (a' := ?_) L18_21 rfl rfl (any_of HT_.out (by kernel_rfl)) (fun _ _ _ h => h) (Or.inl ⟨by rfl, ?_⟩) ?_ ?_
             rotate_left
             ·intro w'
              go_simp
              with_reducible rfl
             rotate_left
             ·simp only [Act.put, sA_, sB_, sC_, i64_w, i32_w]
              rfl
             refine pure_ (i := 20) (N := some 37) (v := ?_) (a' := ?_) L18_22 rfl rfl (any_of HT_.out (by kernel_rfl)) (fun _ _ _ h => h) (Or.inl ⟨by rfl, ?_⟩) ?_ ?_
             rotate_left
             ·intro w'
              go_simp
              with_reducible rfl
             rotate_left
             ·simp only [Act.put, sA_, sB_, sC_, i64_w, i32_w]
              rfl
             refine pure_ (i := 21) (N := some 38) (v := ?_) (a' := ?_) L18_23 rfl rfl (any_of HT_.out (by kernel_rfl)) (fun _ _ _ h => h) (Or.inl ⟨by rfl, ?_⟩) ?_ ?_
             rotate_left
             ·intro w'
              go_simp
              with_reducible rfl
             rotate_left
             ·simp only [Act.put, sA_, sB_, sC_, i64_w, i32_w]
              rfl
             refine pure_ (i := 22) (N := some 39) (v := ?_) (a' := ?_) L18_24 rfl rfl (any_of HT_.out (by kernel_rfl)) (fun _ _ _ h => h) (Or.inl ⟨by rfl, ?_⟩) ?_ ?_
             rotate_left
             ·intro w'
              go_simp
              with_reducible rfl
             rotate_left
             ·simp only [Act.put, sA_, sB_, sC_, i64_w, i32_w]
              rfl
             refine pure_ (i := 23) (N := some 40) (v := ?_) (a' := ?_) L18_25 rfl rfl (any_of HT_.out (by kernel_rfl)) (fun _ _ _ h => h) (Or.inl ⟨by rfl, ?_⟩) ?_ ?_
             rotate_left
             ·intro w'
              go_simp
              with_reducible rfl
             rotate_left
             ·simp only [Act.put, sA_, sB_, sC_, i64_w, i32_w]
              rfl
             refine take_ (i := 18) (N := some 35) (v := ?_) (a' := ?_) L18_26 rfl rfl (take_ofW HT_.out HW_.out (by kernel_rfl)) (fun _ _ _ h => h) (Or.inl ⟨by rfl, ?_⟩) hHeld ?_ ?_
             rotate_left
             ·rintro w' ⟨s0, s1, s2, s3, s4, s5, s6, s7, s8, s9, s10, s11, s12, s13, s14⟩
              go_simp
              with_reducible rfl
             rotate_left
             ·simp only [Act.put, sA_, sB_, sC_, i64_w, i32_w]
              rfl
             refine take_ (i := 24) (N := some 41) (v := ?_) (a' := ?_) L18_27 rfl rfl (take_ofW HT_.out HW_.out (by kernel_rfl)) (fun _ _ _ h => h) (Or.inl ⟨by rfl, ?_⟩) hHeld ?_ ?_
             rotate_left
             ·rintro w' ⟨s0, s1, s2, s3, s4, s5, s6, s7, s8, s9, s10, s11, s12, s13, s14⟩
              go_simp
              with_reducible rfl
             rotate_left
             ·simp only [Act.put, sA_, sB_, sC_, i64_w, i32_w]
              rfl
             refine pure_ (i := 25) (N := some 42) (v := ?_) (a' := ?_) L18_28 rfl rfl (any_of HT_.out (by kernel_rfl)) (fun _ _ _ h => h) (Or.inl ⟨by rfl, ?_⟩) ?_ ?_
             rotate_left
             ·intro w'
              go_simp
              with_reducible rfl
             rotate_left
             ·simp only [Act.put, sA_, sB_, sC_, i64_w, i32_w]
              rfl
             refine pure_ (i := 26) (N := some 43) (v := ?_) (a' := ?_) L18_29 rfl rfl (any_of HT_.out (by kernel_rfl)) (fun _ _ _ h => h) (Or.inl ⟨by rfl, ?_⟩) ?_ ?_
             rotate_left
             ·intro w'
              go_simp
              with_reducible rfl
             rotate_left
             ·simp only [Act.put, sA_, sB_, sC_, i64_w, i32_w]
              rfl
             refine pure_ (i := 27) (N := some 44) (v := ?_) (a' := ?_) L18_32 rfl rfl (any_of HT_.out (by kernel_rfl)) (fun _ _ _ h => h) (Or.inl ⟨by rfl, ?_⟩) ?_ ?_
             rotate_left
             ·intro w'
              go_simp
              with_reducible rfl
             rotate_left
             ·simp only [Act.put, sA_, sB_, sC_, i64_w, i32_w]
              rfl
             refine pure_ (i := 28) (N := some 45) (v := ?_) (a' := ?_) L18_33 rfl rfl (any_of HT_.out (by kernel_rfl)) (fun _ _ _ h => h) (Or.inl ⟨by rfl, ?_⟩) ?_ ?_
             rotate_left
             ·intro w'
              go_simp
              with_reducible rfl
             rotate_left
             ·simp only [Act.put, sA_, sB_, sC_, i64_w, i32_w]
              rfl
             refine pure_ (i := 29) (N := some 46) (v := ?_) (a' := ?_) L18_34 rfl rfl (any_of HT_.out (by kernel_rfl)) (fun _ _ _ h => h) (Or.inl ⟨by rfl, ?_⟩) ?_ ?_
             rotate_left
             ·intro w'
              go_simp
              with_reducible rfl
             rotate_left
             ·simp only [Act.put, sA_, sB_, sC_, i64_w, i32_w]
              rfl
             refine pure_ (i := 30) (N := some 47) (v := ?_) (a' := ?_) L18_35 rfl rfl (any_of HT_.out (by kernel_rfl)) (fun _ _ _ h => h) (Or.inl ⟨by rfl, ?_⟩) ?_ ?_
             rotate_left
             ·intro w'
              go_simp
              with_reducible rfl
             rotate_left
             ·simp only [Act.put, sA_, sB_, sC_, i64_w, i32_w]
              rfl
             refine pure_ (i := 31) (N := some 48) (v := ?_) (a' := ?_) L18_36 rfl rfl (any_of HT_.out (by kernel_rfl)) (fun _ _ _ h => h) (Or.inl ⟨by rfl, ?_⟩) ?_ ?_
             rotate_left
             ·intro w'
              go_simp
              with_reducible rfl
             rotate_left
             ·simp only [Act.put, sA_, sB_, sC_, i64_w, i32_w]
              rfl
             refine pure_ (i := 33) (N := some 50) (v := ?_) (a' := ?_) L18_37 rfl rfl (any_of HT_.out (by kernel_rfl)) (fun _ _ _ h => h) (Or.inl ⟨by rfl, ?_⟩) ?_ ?_
             rotate_left
             ·intro w'
              go_simp
              with_reducible rfl
             rotate_left
             ·simp only [Act.put, sA_, sB_, sC_, i64_w, i32_w]
              rfl
             refine pure_ (i := 34) (N := some 51) (v := ?_) (a' := ?_) L18_38 rfl rfl (any_of HT_.out (by kernel_rfl)) (fun _ _ _ h => h) (Or.inl ⟨by rfl, ?_⟩) ?_ ?_
             rotate_left
             ·intro w'
              go_simp
              with_reducible rfl
             rotate_left
             ·simp only [Act.put, sA_, sB_, sC_, i64_w, i32_w]
              rfl
             refine pure_ (i := 35) (N := some 52) (v := ?_) (a' := ?_) L18_39 rfl rfl (any_of HT_.out (by kernel_rfl)) (fun _ _ _ h => h) (Or.inl ⟨by rfl, ?_⟩) ?_ ?_
             rotate_left
             ·intro w'
              go_simp
              with_reducible rfl
             rotate_left
             ·simp only [Act.put, sA_, sB_, sC_, i64_w, i32_w]
              rfl
             refine pure_ (i := 36) (N := some 53) (v := ?_) (a' := ?_) L18_40 rfl rfl (any_of HT_.out (by kernel_rfl)) (fun _ _ _ h => h) (Or.inl ⟨by rfl, ?_⟩) ?_ ?_
             rotate_left
             ·intro w'
              go_simp
              with_reducible rfl
             rotate_left
             ·simp only [Act.put, sA_, sB_, sC_, i64_w, i32_w]
              rfl
             refine take_ (i := 32) (N := some 49) (v := ?_) (a' := ?_) L18_41 rfl rfl (take_ofW HT_.out HW_.out (by kernel_rfl)) (fun _ _ _ h => h) (Or.inl ⟨by rfl, ?_⟩) hHeld ?_ ?_
             rotate_left
             ·rintro w' ⟨s0, s1, s2, s3, s4, s5, s6, s7, s8, s9, s10, s11, s12, s13, s14⟩
              go_simp
              with_reducible rfl
             rotate_left
             ·simp only [Act.put, sA_, sB_, sC_, i64_w, i32_w]
              rfl
             refine take_ (i := 37) (N := some 54) (v := ?_) (a' := ?_) L18_42 rfl rfl (take_ofW HT_.out HW_.out (by kernel_rfl)) (fun _ _ _ h => h) (Or.inl ⟨by rfl, ?_⟩) hHeld ?_ ?_
             rotate_left
             ·rintro w' ⟨s0, s1, s2, s3, s4, s5, s6, s7, s8, s9, s10, s11, s12, s13, s14⟩
              go_simp
              with_reducible rfl
             rotate_left
             ·simp only [Act.put, sA_, sB_, sC_, i64_w, i32_w]
              rfl
             refine one_ (i := 38) (N := some 55) L18_43 rfl rfl (one_of HT_.out (by kernel_rfl)) (by decide) (fun K hK => ?_)
             refine goes_ Try.func23 (by kernel_rfl) rfl #[.slice A240_1 ((rd_T41 l0 x3_1).f1.f0).length c240_1, .slice A244_1 ((rd_T41 l0 0).f1.f0).length c244_1] (by rfl) rfl rfl (by (try simp only [List.map_toArray, List.map_cons, List.map_nil]); first | done | rfl | (simp only [List.length_drop, List.length_take]; rfl)) ?_
             with_reducible refine (fullerref02_Same.calls k1 _ _ ((rd_T41 l0 x3_1).f1.f0) _ _ ((rd_T41 l0 0).f1.f0) false _ ?side1 ?side2 ?side3 ?side4 A17.out).mono ?_
             (case side1 => repeat (first | exact (Kd.C_below HR243_1.out HB.out) | (with_reducible refine Kd.C_alloc ?_ _) | (with_reducible refine Kd.C_drewN ?_ _) | (with_reducible refine Kd.C_drew ?_)))
             (case side2 => exact HC243_1.out)
             (case side3 => repeat (first | exact (Kd.C_below HR244_1.out HB.out) | (with_reducible refine Kd.C_alloc ?_ _) | (with_reducible refine Kd.C_drewN ?_ _) | (with_reducible refine Kd.C_drew ?_)))
             (case side4 => exact HC244_1.out)
             rintro e w' ⟨rfl, ⟨nd, rfl⟩⟩
             refine ⟨_, rfl, ?_⟩
             refine hK.out _ _ ⟨((HB.out.cell (World.block_lt_of_cell? w _ hw240_0)).trans hw240_0), ((HB.out.cell (World.block_lt_of_cell? w _ hw240_1)).trans hw240_1), ((HB.out.cell (World.block_lt_of_cell? w _ hw240_2)).trans hw240_2), ((HB.out.cell (World.block_lt_of_cell? w _ hw241_0)).trans hw241_0), ((HB.out.cell (World.block_lt_of_cell? w _ hw241_1)).trans hw241_1), ((HB.out.cell (World.block_lt_of_cell? w _ hw241_2)).trans hw241_2), ((HB.out.cell (World.block_lt_of_cell? w _ hw242_0)).trans hw242_0), ((HB.out.cell (World.block_lt_of_cell? w _ hw242_1)).trans hw242_1), ((HB.out.cell (World.block_lt_of_cell? w _ hw242_2)).trans hw242_2), ((HB.out.cell (World.block_lt_of_cell? w _ hw243_0)).trans hw243_0), ((HB.out.cell (World.block_lt_of_cell? w _ hw243_1)).trans hw243_1), ((HB.out.cell (World.block_lt_of_cell? w _ hw243_2)).trans hw243_2), ((HB.out.cell (World.block_lt_of_cell? w _ hw244_0)).trans hw244_0), ((HB.out.cell (World.block_lt_of_cell? w _ hw244_1)).trans hw244_1), ((HB.out.cell (World.block_lt_of_cell? w _ hw244_2)).trans hw244_2)⟩ (fun hHeld => ?_)
             clear hK K
             refine norm_ (a' := ?_) ?_ ?_
             rotate_left
             ·show Act.put _ (some 55) _ = _
              simp only [Act.put, sA_, sB_, sC_, i64_w, i32_w]
              rfl
             refine pure_ (i := 39) (N := some 56) (v := ?_) (a' := ?_) L18_30 rfl rfl (any_of HT_.out (by kernel_rfl)) (fun _ _ _ h => h) (Or.inl ⟨by rfl, ?_⟩) ?_ ?_
             rotate_left
             ·intro w'
              go_simp
              with_reducible rfl
             rotate_left
             ·simp only [Act.put, sA_, sB_, sC_, i64_w, i32_w]
              rfl
             refine pure_ (i := 40) (N := some 57) (v := ?_) (a' := ?_) L18_31 rfl rfl (any_of HT_.out (by kernel_rfl)) (fun _ _ _ h => h) (Or.inl ⟨by rfl, ?_⟩) ?_ ?_
             rotate_left
             ·intro w'
              go_simp
              with_reducible rfl
             rotate_left
             ·simp only [Act.put, sA_, sB_, sC_, i64_w, i32_w]
              rfl
             refine pure_ (i := 41) (N := some 58) (v := ?_) (a' := ?_) L18_12 rfl rfl (any_of HT_.out (by kernel_rfl)) (fun _ _ _ h => h) (Or.inl ⟨by rfl, ?_⟩) ?_ ?_
             rotate_left
             ·intro w'
              go_simp
              with_reducible rfl
             rotate_left
             ·simp only [Act.put, sA_, sB_, sC_, i64_w, i32_w]
              rfl
             refine pure_ (i := 42) (N := some 59) (v := ?_) (a' := ?_) L18_13 rfl rfl (any_of HT_.out (by kernel_rfl)) (fun _ _ _ h => h) (Or.inl ⟨by rfl, ?_⟩) ?_ ?_
             rotate_left
             ·intro w'
              go_simp
              with_reducible rfl
             rotate_left
             ·simp only [Act.put, sA_, sB_, sC_, i64_w, i32_w]
              rfl
             refine done_ (done_of HT_.out (by kernel_rfl)) ?_
             try go_wp2
             go_ret
             exact ⟨by first | rfl | (simp [errW_none, errW_some] <;> rfl) | (simp only [← hji10]; first | rfl | (simp [errW_none, errW_some] <;> rfl)) | (simp [*, errW_none, errW_some] <;> rfl), by repeat (first | (with_reducible first | exact HB.out | apply below_alloc | apply pw_below_drewN | apply below_drew1) | exact HB.out)⟩
           ·rw [if_neg c16] at H
            exact absurd H (by simp)
         ·rw [if_neg c12] at H
          exact absurd H (by simp)
        ·rw [if_neg c11] at H
         exact absurd H (by simp)
       ·rw [if_neg c9] at H
        have c9b0 : decide (0 < x3_1) = false := decide_eq_false c9
        clear c9
        have H' := Aside0.mk H
        clear H
        have p238 : 0 ≤ (x3_1 : Int) := of_decide_eq_true (by first | (with_reducible assumption) | assumption)
        have q238 : x3_1 < (l0.length : Int) := of_decide_eq_true (by first | (with_reducible assumption) | assumption)
        obtain ⟨ad238, A238_1, c238_1, A238_2, c238_2, e238, hx238_0, hx238_1, hx238_2, hl238_1, hi238_1, hl238_2, hi238_2⟩ := at_T41 HR0.out x3_1 p238 q238
        cases e238
        replace hx238_0 := (HB.out.cell (World.block_lt_of_cell? w _ hx238_0)).trans hx238_0
        replace hx238_1 := (HB.out.cell (World.block_lt_of_cell? w _ hx238_1)).trans hx238_1
        replace hx238_2 := (HB.out.cell (World.block_lt_of_cell? w _ hx238_2)).trans hx238_2
        have HR238_1 := Aside0.mk hi238_1
        have HC238_1 := Aside0.mk hl238_1
        clear hi238_1 hl238_1
        have HR238_2 := Aside0.mk hi238_2
        have HC238_2 := Aside0.mk hl238_2
        clear hi238_2 hl238_2
        replace p238 := eq_true p238
        replace q238 := eq_true q238
        try go_wp2_with (first | ((with_reducible refine gate_callee (f := 30) rfl ?_); refine goesL_ (some 16) rfl rfl Try.func30 (by kernel_rfl) rfl #[.agg #[.slice A238_1 ((rd_T41 l0 x3_1).f1.f0).length c238_1, .slice A238_2 ((rd_T41 l0 x3_1).f1.f1).length c238_2]] rfl (by (try simp only [List.map_toArray, List.map_cons, List.map_nil]); first | done | rfl | (simp only [List.length_drop, List.length_take]; rfl)) ?_; (with_reducible refine (fullerref03_Check.calls k1 _ _ ((rd_T41 l0 x3_1).f1.f0) _ _ ((rd_T41 l0 x3_1).f1.f1) true _ ?side1 ?side2 ?side3 ?side4 A4.out).mono ?_); (case side1 => repeat (first | exact (Kd.C_below HR238_1.out HB.out) | (with_reducible refine Kd.C_alloc ?_ _) | (with_reducible refine Kd.C_drewN ?_ _) | (with_reducible refine Kd.C_drew ?_))); (case side2 => exact HC238_1.out); (case side3 => repeat (first | exact (Kd.C_below HR238_2.out HB.out) | (with_reducible refine Kd.C_alloc ?_ _) | (with_reducible refine Kd.C_drewN ?_ _) | (with_reducible refine Kd.C_drew ?_))); (case side4 => exact HC238_2.out); rintro e w23 ⟨rfl, hb⟩; refine ⟨_, rfl, ?_⟩; have n0_ := Aside0.mk (below_step (bq0_ HB.out) hb); clear HB; have HB := n0_; clear n0_; (try clear hb); (try clear hb2); (try clear hk); (try clear hi)))
        have n0_ := Aside0.mk (below_drew1 HB.out)
        clear HB
        have HB := n0_
        clear n0_
        have p240 : 0 ≤ (x3_1 : Int) := of_decide_eq_true (by first | (with_reducible assumption) | assumption)
        have q240 : x3_1 < (l0.length : Int) := of_decide_eq_true (by first | (with_reducible assumption) | assumption)
        obtain ⟨ad240, A240_1, c240_1, A240_2, c240_2, e240, hx240_0, hx240_1, hx240_2, hl240_1, hi240_1, hl240_2, hi240_2⟩ := at_T41 HR0.out x3_1 p240 q240
        have hw240_2 := hx240_2
        have hw240_1 := hx240_1
        have hw240_0 := hx240_0
        obtain rfl : ad238 = ad240 := (by injection e240)
        replace hx240_0 := (HB.out.cell (World.block_lt_of_cell? w _ hx240_0)).trans hx240_0
        replace hx240_1 := (HB.out.cell (World.block_lt_of_cell? w _ hx240_1)).trans hx240_1
        replace hx240_2 := (HB.out.cell (World.block_lt_of_cell? w _ hx240_2)).trans hx240_2
        have HR240_1 := Aside0.mk hi240_1
        have HC240_1 := Aside0.mk hl240_1
        clear hi240_1 hl240_1
        have HR240_2 := Aside0.mk hi240_2
        have HC240_2 := Aside0.mk hl240_2
        clear hi240_2 hl240_2
        replace p240 := eq_true p240
        replace q240 := eq_true q240
        refine start_ (n := 43) (S := fun w' => w'.cell? (ad238.add ((x3_1).toNat * 3)) = some (.int .i64 ((rd_T41 l0 x3_1).f0)) ∧ w'.cell? ⟨(ad238.add ((x3_1).toNat * 3)).block, (ad238.add ((x3_1).toNat * 3)).off + 1, none⟩ = some (.slice A240_1 ((rd_T41 l0 x3_1).f1.f0).length c240_1) ∧ w'.cell? ⟨(ad238.add ((x3_1).toNat * 3)).block, (ad238.add ((x3_1).toNat * 3)).off + 2, none⟩ = some (.slice A240_2 ((rd_T41 l0 x3_1).f1.f1).length c240_2)) (ds := []) L18_0 (by kernel_rfl) rfl rfl ⟨((HB.out.cell (World.block_lt_of_cell? w _ hw240_0)).trans hw240_0), ((HB.out.cell (World.block_lt_of_cell? w _ hw240_1)).trans hw240_1), ((HB.out.cell (World.block_lt_of_cell? w _ hw240_2)).trans hw240_2)⟩ (fun hHeld => ?_); refine with_tabW fullerref17_Check.tab5 fullerref17_Check.bits5 (fun HT_ HW_ => ?_)
        generalize w23.drew = w24 at HB HR240_1 HR240_2 hx240_0 hx240_1 hx240_2 hHeld ⊢
        refine pure_ (i := 0) (N := some 17) (v := ?_) (a' := ?_) L18_1 rfl rfl (any_of HT_.out (by kernel_rfl)) (fun _ _ _ h => h) (Or.inl ⟨by rfl, ?_⟩) ?_ ?_
        rotate_left
        ·intro w'
         go_simp
         with_reducible rfl
        rotate_left
        ·simp only [Act.put, sA_, sB_, sC_, i64_w, i32_w]
         rfl
        refine pure_ (i := 1) (N := some 18) (v := ?_) (a' := ?_) L18_2 rfl rfl (any_of HT_.out (by kernel_rfl)) (fun _ _ _ h => h) (Or.inl ⟨by rfl, ?_⟩) ?_ ?_
        rotate_left
        ·intro w'
         go_simp
         with_reducible rfl
        rotate_left
        ·simp only [Act.put, sA_, sB_, sC_, i64_w, i32_w]
         rfl
        refine pure_ (i := 2) (N := some 19) (v := ?_) (a' := ?_) L18_3 rfl rfl (any_of HT_.out (by kernel_rfl)) (fun _ _ _ h => h) (Or.inl ⟨by rfl, ?_⟩) ?_ ?_
        rotate_left
        ·intro w'
         go_simp
         with_reducible rfl
        rotate_left
        ·simp only [Act.put, sA_, sB_, sC_, i64_w, i32_w]
         rfl
        refine pure_ (i := 3) (N := some 20) (v := ?_) (a' := ?_) L18_4 rfl rfl (any_of HT_.out (by kernel_rfl)) (fun _ _ _ h => h) (Or.inl ⟨by rfl, ?_⟩) ?_ ?_
        rotate_left
        ·intro w'
         go_simp
         with_reducible rfl
        rotate_left
        ·simp only [Act.put, sA_, sB_, sC_, i64_w, i32_w]
         rfl
        refine pure_ (i := 4) (N := some 21) (v := ?_) (a' := ?_) L18_5 rfl rfl (any_of HT_.out (by kernel_rfl)) (fun _ _ _ h => h) (Or.inl ⟨by rfl, ?_⟩) ?_ ?_
        rotate_left
        ·intro w'
         go_simp
         with_reducible rfl
        rotate_left
        ·simp only [Act.put, sA_, sB_, sC_, i64_w, i32_w]
         rfl
        refine pure_ (i := 5) (N := some 22) (v := ?_) (a' := ?_) L18_6 rfl rfl (any_of HT_.out (by kernel_rfl)) (fun _ _ _ h => h) (Or.inl ⟨by rfl, ?_⟩) ?_ ?_
        rotate_left
        ·intro w'
         go_simp
         with_reducible rfl
        rotate_left
        ·simp only [Act.put, sA_, sB_, sC_, i64_w, i32_w]
         rfl
        refine pure_ (i := 6) (N := some 23) (v := ?_) (a' := ?_) L18_7 rfl rfl (any_of HT_.out (by kernel_rfl)) (fun _ _ _ h => h) (Or.inl ⟨by rfl, ?_⟩) ?_ ?_
        rotate_left
        ·intro w'
         go_simp
         with_reducible rfl
        rotate_left
        ·simp only [Act.put, sA_, sB_, sC_, i64_w, i32_w]
         rfl
        refine take_ (i := 7) (N := some 24) (v := ?_) (a' := ?_) L18_8 rfl rfl (take_ofW HT_.out HW_.out (by kernel_rfl)) (fun _ _ _ h => h) (Or.inl ⟨by rfl, ?_⟩) hHeld ?_ ?_
        rotate_left
        ·rintro w' ⟨s0, s1, s2⟩
         go_simp
         with_reducible rfl
        rotate_left
        ·simp only [Act.put, sA_, sB_, sC_, i64_w, i32_w]
         rfl
        refine pure_ (i := 8) (N := some 25) (v := ?_) (a' := ?_) L18_9 rfl rfl (any_of HT_.out (by kernel_rfl)) (fun _ _ _ h => h) (Or.inl ⟨by rfl, ?_⟩) ?_ ?_
        rotate_left
        ·intro w'
         go_simp
         with_reducible rfl
        rotate_left
        ·simp only [Act.put, sA_, sB_, sC_, i64_w, i32_w]
         rfl
        refine pure_ (i := 9) (N := some 26) (v := ?_) (a' := ?_) L18_10 rfl rfl (any_of HT_.out (by kernel_rfl)) (fun _ _ _ h => h) (Or.inl ⟨by rfl, ?_⟩) ?_ ?_
        rotate_left
        ·intro w'
         go_simp
         with_reducible rfl
        rotate_left
        ·simp only [Act.put, sA_, sB_, sC_, i64_w, i32_w]
         rfl
        refine pure_ (i := 10) (N := some 27) (v := ?_) (a' := ?_) L18_11 rfl rfl (any_of HT_.out (by kernel_rfl)) (fun _ _ _ h => h) (Or.inl ⟨by rfl, ?_⟩) ?_ ?_
        rotate_left
        ·intro w'
         go_simp
         with_reducible rfl
        rotate_left
        ·simp only [Act.put, sA_, sB_, sC_, i64_w, i32_w]
         rfl
        refine pure_ (i := 11) (N := some 28) (v := ?_) (a' := ?_) L18_14 rfl rfl (any_of HT_.out (by kernel_rfl)) (fun _ _ _ h => h) (Or.inl ⟨by rfl, ?_⟩) ?_ ?_
        rotate_left
        ·intro w'
         go_simp
         with_reducible rfl
        rotate_left
        ·simp only [Act.put, sA_, sB_, sC_, i64_w, i32_w]
         rfl
        refine pure_ (i := 12) (N := some 29) (v := ?_) (a' := ?_) L18_15 rfl rfl (any_of HT_.out (by kernel_rfl)) (fun _ _ _ h => h) (Or.inl ⟨by rfl, ?_⟩) ?_ ?_
        rotate_left
        ·intro w'
         go_simp
         with_reducible rfl
        rotate_left
        ·simp only [Act.put, sA_, sB_, sC_, i64_w, i32_w]
         rfl
        refine pure_ (i := 13) (N := some 30) (v := ?_) (a' := ?_) L18_16 rfl rfl (any_of HT_.out (by kernel_rfl)) (fun _ _ _ h => h) (Or.inl ⟨by rfl, ?_⟩) ?_ ?_
        rotate_left
        ·intro w'
         go_simp
         with_reducible rfl
        rotate_left
        ·simp only [Act.put, sA_, sB_, sC_, i64_w, i32_w]
         rfl
        refine skips_ (fuel := 2) (m := 29) HT_.out (fun _ _ _ _ _ h => h) [(14, 31), (15, 32), (16, 33), (17, 34), (18, 35), (19, 36), (20, 37), (21, 38), (22, 39), (23, 40), (24, 41), (25, 42), (26, 43), (27, 44), (28, 45), (29, 46), (30, 47), (31, 48), (32, 49), (33, 50), (34, 51), (35, 52), (36, 53), (37, 54), (38, 55), (39, 56), (40, 57)] L18_31 rfl (by kernel_rfl) (by kernel_rfl) (a' := ?_) ?_ ?_
        rotate_left
        ·simp only [putU, Act.put, sA_, sB_, sC_]
         rfl
        refine pure_ (i := 41) (N := some 58) (v := ?_) (a' := ?_) L18_12 rfl rfl (any_of HT_.out (by kernel_rfl)) (fun _ _ _ h => h) (Or.inl ⟨by rfl, ?_⟩) ?_ ?_
        rotate_left
        ·intro w'
         go_simp
         with_reducible rfl
        rotate_left
        ·simp only [Act.put, sA_, sB_, sC_, i64_w, i32_w]
         rfl
        refine pure_ (i := 42) (N := some 59) (v := ?_) (a' := ?_) L18_13 rfl rfl (any_of HT_.out (by kernel_rfl)) (fun _ _ _ h => h) (Or.inl ⟨by rfl, ?_⟩) ?_ ?_
        rotate_left
        ·intro w'
         go_simp
         with_reducible rfl
        rotate_left
        ·simp only [Act.put, sA_, sB_, sC_, i64_w, i32_w]
         rfl
        refine done_ (done_of HT_.out (by kernel_rfl)) ?_
        try go_wp2
        go_roundg k1
        case measure => have := HK1.out; omega
        case rel => exact ⟨(wrap64 (x3_1 + 1)), (by first | rfl | (simp; done) | (simp [*]; done)), H', ⟨by have := HK1.out; omega⟩, ⟨by repeat (first | (with_reducible first | exact HB.out | apply below_alloc | apply pw_below_drewN | apply below_drew1) | exact HB.out)⟩⟩
     ·replace c5 := Bool.eq_false_iff.mpr c5
      subst c5
      have H1 : (some false) = some r := by rw [if_neg (show ¬ (false = true) by decide)] at H; exact H
      clear H
      have H := H1
      clear H1
      obtain rfl := Option.some.inj H
      have p238 : 0 ≤ (x3_1 : Int) := of_decide_eq_true (by first | (with_reducible assumption) | assumption)
      have q238 : x3_1 < (l0.length : Int) := of_decide_eq_true (by first | (with_reducible assumption) | assumption)
      obtain ⟨ad238, A238_1, c238_1, A238_2, c238_2, e238, hx238_0, hx238_1, hx238_2, hl238_1, hi238_1, hl238_2, hi238_2⟩ := at_T41 HR0.out x3_1 p238 q238
      cases e238
      replace hx238_0 := (HB.out.cell (World.block_lt_of_cell? w _ hx238_0)).trans hx238_0
      replace hx238_1 := (HB.out.cell (World.block_lt_of_cell? w _ hx238_1)).trans hx238_1
      replace hx238_2 := (HB.out.cell (World.block_lt_of_cell? w _ hx238_2)).trans hx238_2
      have HR238_1 := Aside0.mk hi238_1
      have HC238_1 := Aside0.mk hl238_1
      clear hi238_1 hl238_1
      have HR238_2 := Aside0.mk hi238_2
      have HC238_2 := Aside0.mk hl238_2
      clear hi238_2 hl238_2
      replace p238 := eq_true p238
      replace q238 := eq_true q238
      try go_wp2_with (first | ((with_reducible refine gate_callee (f := 30) rfl ?_); refine goesL_ (some 16) rfl rfl Try.func30 (by kernel_rfl) rfl #[.agg #[.slice A238_1 ((rd_T41 l0 x3_1).f1.f0).length c238_1, .slice A238_2 ((rd_T41 l0 x3_1).f1.f1).length c238_2]] rfl (by (try simp only [List.map_toArray, List.map_cons, List.map_nil]); first | done | rfl | (simp only [List.length_drop, List.length_take]; rfl)) ?_; (with_reducible refine (fullerref03_Check.calls k1 _ _ ((rd_T41 l0 x3_1).f1.f0) _ _ ((rd_T41 l0 x3_1).f1.f1) false _ ?side1 ?side2 ?side3 ?side4 A4.out).mono ?_); (case side1 => repeat (first | exact (Kd.C_below HR238_1.out HB.out) | (with_reducible refine Kd.C_alloc ?_ _) | (with_reducible refine Kd.C_drewN ?_ _) | (with_reducible refine Kd.C_drew ?_))); (case side2 => exact HC238_1.out); (case side3 => repeat (first | exact (Kd.C_below HR238_2.out HB.out) | (with_reducible refine Kd.C_alloc ?_ _) | (with_reducible refine Kd.C_drewN ?_ _) | (with_reducible refine Kd.C_drew ?_))); (case side4 => exact HC238_2.out); rintro e w25 ⟨rfl, hb⟩; refine ⟨_, rfl, ?_⟩; have n0_ := Aside0.mk (below_step (bq0_ HB.out) hb); clear HB; have HB := n0_; clear n0_; (try clear hb); (try clear hb2); (try clear hk); (try clear hi)))
      have n0_ := Aside0.mk (below_drew1 HB.out)
      clear HB
      have HB := n0_
      clear n0_
      refine start_ (n := 43) (S := fun w' => True) (ds := []) L18_0 (by kernel_rfl) rfl rfl trivial (fun hHeld => ?_); refine with_tabW fullerref17_Check.tab5 fullerref17_Check.bits5 (fun HT_ HW_ => ?_)
      generalize w25.drew = w26 at HB hHeld ⊢
      refine pure_ (i := 0) (N := some 17) (v := ?_) (a' := ?_) L18_1 rfl rfl (any_of HT_.out (by kernel_rfl)) (fun _ _ _ h => h) (Or.inl ⟨by rfl, ?_⟩) ?_ ?_
      rotate_left
      ·intro w'
       go_simp
       with_reducible rfl
      rotate_left
      ·simp only [Act.put, sA_, sB_, sC_, i64_w, i32_w]
       rfl
      refine pure_ (i := 1) (N := some 18) (v := ?_) (a' := ?_) L18_2 rfl rfl (any_of HT_.out (by kernel_rfl)) (fun _ _ _ h => h) (Or.inl ⟨by rfl, ?_⟩) ?_ ?_
      rotate_left
      ·intro w'
       go_simp
       with_reducible rfl
      rotate_left
      ·simp only [Act.put, sA_, sB_, sC_, i64_w, i32_w]
       rfl
      refine pure_ (i := 2) (N := some 19) (v := ?_) (a' := ?_) L18_3 rfl rfl (any_of HT_.out (by kernel_rfl)) (fun _ _ _ h => h) (Or.inl ⟨by rfl, ?_⟩) ?_ ?_
      rotate_left
      ·intro w'
       go_simp
       with_reducible rfl
      rotate_left
      ·simp only [Act.put, sA_, sB_, sC_, i64_w, i32_w]
       rfl
      refine skips_ (fuel := 34) (m := 40) HT_.out (fun _ _ _ _ _ h => h) [(3, 20), (4, 21), (5, 22), (6, 23), (7, 24), (8, 25)] L18_9 rfl (by kernel_rfl) (by kernel_rfl) (a' := ?_) ?_ ?_
      rotate_left
      ·simp only [putU, Act.put, sA_, sB_, sC_]
       rfl
      refine pure_ (i := 9) (N := some 26) (v := ?_) (a' := ?_) L18_10 rfl rfl (any_of HT_.out (by kernel_rfl)) (fun _ _ _ h => h) (Or.inl ⟨by rfl, ?_⟩) ?_ ?_
      rotate_left
      ·intro w'
       go_simp
       with_reducible rfl
      rotate_left
      ·simp only [Act.put, sA_, sB_, sC_, i64_w, i32_w]
       rfl
      refine pure_ (i := 10) (N := some 27) (v := ?_) (a' := ?_) L18_11 rfl rfl (any_of HT_.out (by kernel_rfl)) (fun _ _ _ h => h) (Or.inl ⟨by rfl, ?_⟩) ?_ ?_
      rotate_left
      ·intro w'
       go_simp
       with_reducible rfl
      rotate_left
      ·simp only [Act.put, sA_, sB_, sC_, i64_w, i32_w]
       rfl
      refine skips_ (fuel := 1) (m := 32) HT_.out (fun _ _ _ _ _ h => h) [(11, 28), (12, 29), (13, 30), (14, 31), (15, 32), (16, 33), (17, 34), (18, 35), (19, 36), (20, 37), (21, 38), (22, 39), (23, 40), (24, 41), (25, 42), (26, 43), (27, 44), (28, 45), (29, 46), (30, 47), (31, 48), (32, 49), (33, 50), (34, 51), (35, 52), (36, 53), (37, 54), (38, 55), (39, 56), (40, 57), (41, 58)] L18_12 rfl (by kernel_rfl) (by kernel_rfl) (a' := ?_) ?_ ?_
      rotate_left
      ·simp only [putU, Act.put, sA_, sB_, sC_]
       rfl
      refine pure_ (i := 42) (N := some 59) (v := ?_) (a' := ?_) L18_13 rfl rfl (any_of HT_.out (by kernel_rfl)) (fun _ _ _ h => h) (Or.inl ⟨by rfl, ?_⟩) ?_ ?_
      rotate_left
      ·intro w'
       go_simp
       with_reducible rfl
      rotate_left
      ·simp only [Act.put, sA_, sB_, sC_, i64_w, i32_w]
       rfl
      refine done_ (done_of HT_.out (by kernel_rfl)) ?_
      try go_wp2
      go_ret
      exact ⟨by first | rfl | (simp [errW_none, errW_some] <;> rfl) | (simp [*, errW_none, errW_some] <;> rfl), by repeat (first | (with_reducible first | exact HB.out | apply below_alloc | apply pw_below_drewN | apply below_drew1) | exact HB.out)⟩
    ·rw [if_neg c3] at H
     exact absurd H (by simp)
   ·rw [if_neg c2] at H
    have c2b0 : decide (x3_1 < (l0.length : Int)) = false := decide_eq_false c2
    clear c2
    obtain rfl := Option.some.inj H
    go_wp2
    go_ret
    exact ⟨by first | rfl | (simp [errW_none, errW_some] <;> rfl) | (simp [*, errW_none, errW_some] <;> rfl), by repeat (first | (with_reducible first | exact HB.out | apply below_alloc | apply pw_below_drewN | apply below_drew1) | exact HB.out)⟩

end Go.Proofs.Ytdjlpbekoggmiaa.A
