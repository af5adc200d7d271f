/- Lean functions that answer as the Go functions do, and the proofs that they do; no conditions. Written by this session's own driver: a scratch copy of the kit's print with the session's additions (wip/xprint). -/
import Derived.Test.YtalmgghhpgfgoaaAx0
import Derived.Test.YtalmgghhpgfgoaaAx10
import Derived.Test.YtalmgghhpgfgoaaAx11
namespace Go.Proofs.Ytalmgghhpgfgoaa.A
open Go.RowKit Go.Proofs.YtalmgghhpgfgoaaW.PrintWords Go.Proofs.YtalmgghhpgfgoaaW.PrintLast Go.Proofs.YtalmgghhpgfgoaaW.PrintMore
attribute [local go_sem] max2_int min2_int max_two min_two max_three min_three max_four min_four
set_option linter.unusedVariables false
set_option linter.unusedSimpArgs false
def L31_0 : Array Bool := #[false, false, false, false, false, false, false, false, false, false, false, false, false, false, false, false, false, false, false, false, false, false, false, false, false, false]
def L31_1 : Array Bool := #[true, false, false, false, false, false, false, false, false, false, false, false, false, false, false, false, false, false, false, false, false, false, false, false, false, false]
def L31_2 : Array Bool := #[true, true, false, false, false, false, false, false, false, false, false, false, false, false, false, false, false, false, false, false, false, false, false, false, false, false]
def L31_3 : Array Bool := #[true, true, true, false, false, false, false, false, false, false, false, false, false, false, false, false, false, false, false, false, false, false, false, false, false, false]
def L31_4 : Array Bool := #[true, true, true, true, false, false, false, false, false, false, false, false, false, false, false, false, false, false, false, false, false, false, false, false, false, false]
def L31_5 : Array Bool := #[true, true, true, true, true, false, false, false, false, false, false, false, false, false, false, false, false, false, false, false, false, false, false, false, false, false]
def L31_6 : Array Bool := #[true, true, true, true, true, true, false, false, false, false, false, false, false, false, false, false, false, false, false, false, false, false, false, false, false, false]
def L31_7 : Array Bool := #[true, true, true, true, true, true, true, false, false, false, false, false, false, false, false, false, false, false, false, false, false, false, false, false, false, false]
def L31_8 : Array Bool := #[true, true, true, true, true, true, true, true, false, false, false, false, false, false, false, false, false, false, false, false, false, false, false, false, false, false]
def L31_9 : Array Bool := #[true, true, true, true, true, true, true, true, true, true, true, true, true, true, true, true, true, true, true, true, true, false, false, false, false, false]
def L31_10 : Array Bool := #[true, true, true, true, true, true, true, true, true, true, true, true, true, true, true, true, true, true, true, true, true, true, false, false, false, false]
def L31_11 : Array Bool := #[true, true, true, true, true, true, true, true, true, true, true, true, true, true, true, true, true, true, true, true, true, true, true, false, false, false]
def L31_12 : Array Bool := #[true, true, true, true, true, true, true, true, true, true, true, true, true, true, true, true, true, true, true, true, true, true, true, true, true, false]
def L31_13 : Array Bool := #[true, true, true, true, true, true, true, true, true, true, true, true, true, true, true, true, true, true, true, true, true, true, true, true, true, true]
def L31_14 : Array Bool := #[true, true, true, true, true, true, true, true, true, false, false, false, false, false, false, false, false, false, false, false, false, false, false, false, false, false]
def L31_15 : Array Bool := #[true, true, true, true, true, true, true, true, true, true, false, false, false, false, false, false, false, false, false, false, false, false, false, false, false, false]
def L31_16 : Array Bool := #[true, true, true, true, true, true, true, true, true, true, true, false, false, false, false, false, false, false, false, false, false, false, false, false, false, false]
def L31_17 : Array Bool := #[true, true, true, true, true, true, true, true, true, true, true, true, false, false, false, false, false, false, false, false, false, false, false, false, false, false]
def L31_18 : Array Bool := #[true, true, true, true, true, true, true, true, true, true, true, true, false, false, true, false, false, false, false, false, false, false, false, false, false, false]
def L31_19 : Array Bool := #[true, true, true, true, true, true, true, true, true, true, true, true, false, false, true, true, false, false, false, false, false, false, false, false, false, false]
def L31_20 : Array Bool := #[true, true, true, true, true, true, true, true, true, true, true, true, false, false, true, true, true, false, false, false, false, false, false, false, false, false]
def L31_21 : Array Bool := #[true, true, true, true, true, true, true, true, true, true, true, true, false, false, true, true, true, true, false, false, false, false, false, false, false, false]
def L31_22 : Array Bool := #[true, true, true, true, true, true, true, true, true, true, true, true, true, false, true, true, true, true, false, false, false, false, false, false, false, false]
def L31_23 : Array Bool := #[true, true, true, true, true, true, true, true, true, true, true, true, true, true, true, true, true, true, false, false, false, false, false, false, false, false]
def L31_24 : Array Bool := #[true, true, true, true, true, true, true, true, true, true, true, true, true, true, true, true, true, true, true, false, false, false, false, false, false, false]
def L31_25 : Array Bool := #[true, true, true, true, true, true, true, true, true, true, true, true, true, true, true, true, true, true, true, true, false, false, false, false, false, false]
def L31_26 : Array Bool := #[true, true, true, true, true, true, true, true, true, true, true, true, true, true, true, true, true, true, true, true, true, true, true, true, false, false]
def L31_27 : Array Bool := #[false, false, false, false, false, false, false, false, false, false]
def L31_28 : Array Bool := #[true, false, false, false, false, false, false, false, false, false]
def L31_29 : Array Bool := #[true, true, false, false, false, false, false, false, false, false]
def L31_30 : Array Bool := #[true, true, true, false, false, false, false, false, false, false]
def L31_31 : Array Bool := #[true, true, true, false, true, false, false, false, false, false]
def L31_32 : Array Bool := #[true, true, true, false, true, true, false, false, false, false]
def L31_33 : Array Bool := #[true, true, true, false, true, true, true, false, false, false]
def L31_34 : Array Bool := #[true, true, true, true, true, true, true, false, false, false]
def L31_35 : Array Bool := #[true, true, true, true, true, true, true, true, false, false]
def L31_36 : Array Bool := #[true, true, true, true, true, true, true, true, true, false]
def L31_37 : Array Bool := #[true, true, true, true, true, true, true, true, true, true]
mutual
def fullerref10_Check.j0 : Nat → List (S25) → Bool → Option (Bool)
 | 0, _, _ => none
 | k + 1, x0, x15 => if x15 = true then (some false) else (fullerref10_Check.l0 k x0 0)
def fullerref10_Check.l0 : Nat → List (S25) → Int → Option (Bool)
 | 0, _, _ => none
 | k + 1, x0, x3 => if x3 < (x0.length : Int) then (if 0 ≤ x3 then ((fullerref10_nums.f k ((rd_T25 x0 x3).f0) ((rd_T25 x0 x3).f1) ((rd_T25 x0 x3).f2)).bind fun t296 => ((fullerref10_Arity.f k ((rd_T25 x0 x3).f0)).bind fun t298 => (if t298 < 0 then (fullerref10_Check.j2 k x0 x3 true) else ((fullerref10_Arity.f k ((rd_T25 x0 x3).f0)).bind fun t301 => (if (((rd_T25 x0 x3).f1).length : Int) = t301 then (fullerref10_Check.j2 k x0 x3 (!t296)) else (fullerref10_Check.j2 k x0 x3 true)))))) else (none)) else (some true)
def fullerref10_Check.j2 : Nat → List (S25) → Int → Bool → Option (Bool)
 | 0, _, _, _ => none
 | k + 1, x0, x3, x52 => if x52 = true then (some false) else (fullerref10_Check.l1 k x0 x3 0)
def fullerref10_Check.l1 : Nat → List (S25) → Int → Int → Option (Bool)
 | 0, _, _, _ => none
 | k + 1, x0, x3, x5 => if 0 ≤ x3 then (if x3 < (x0.length : Int) then (if x5 < (((rd_T25 x0 x3).f1).length : Int) then (if 0 ≤ x5 then (if (rd ((rd_T25 x0 x3).f1) x5) < 0 then (some false) else (if (rd ((rd_T25 x0 x3).f1) x5) ≥ x3 then (some false) else (fullerref10_Check.l1 k x0 x3 (wrap64 (x5 + 1))))) else (none)) else (fullerref10_Check.l2 k x0 x3 0)) else (none)) else (none)
def fullerref10_Check.l2 : Nat → List (S25) → Int → Int → Option (Bool)
 | 0, _, _, _ => none
 | k + 1, x0, x3, x6 => if x6 < x3 then (if 0 ≤ x6 then (if x6 < (x0.length : Int) then (if 0 ≤ x3 then (if x3 < (x0.length : Int) then ((fullerref10_like.f k ((rd_T25 x0 x6).f0) ((rd_T25 x0 x6).f1) ((rd_T25 x0 x6).f2) ((rd_T25 x0 x3).f0) ((rd_T25 x0 x3).f1) ((rd_T25 x0 x3).f2)).bind fun t309 => (if t309 = true then (fullerref10_Check.l2 k x0 x3 (wrap64 (x6 + 1))) else (some false))) else (none)) else (none)) else (none)) else (none)) else (fullerref10_Check.l0 k x0 (wrap64 (x3 + 1)))
end
def fullerref10_Check.f (k : Nat) (l0 : List (S25)) : Option (Bool) := if (l0.length : Int) < 1 then (fullerref10_Check.j0 k l0 true) else (fullerref10_Check.j0 k l0 (decide ((l0.length : Int) > 24)))
def fullerref10_Check.T7 : Bool × List (List Nat × List Nat) := (true, [([], []), ([], []), ([0, 1], [0, 1]), ([2], [2]), ([3], [3]), ([4], [4]), ([5], [5]), ([6, 5], [6]), ([7], [7]), ([7], [7]), ([8, 9, 7], [7, 8, 9]), ([10, 7], [7, 10]), ([11, 7], [7, 11]), ([12, 7], [7, 12]), ([7], [7]), ([7], [7]), ([14, 15, 7], [7, 14, 15]), ([16, 7], [7, 16]), ([17, 7], [7, 17]), ([18, 7, 7], [7, 18]), ([13, 19, 7], [7, 13, 19]), ([7, 20], [7, 20]), ([21, 19], [21]), ([22], [22]), ([23, 22], [22, 23]), ([22, 24], [22, 24])])
def fullerref10_Check.B7 : List Nat := [0, 0, 3, 7, 15, 31, 63, 127, 255, 255, 1023, 2047, 4095, 8191, 255, 255, 49407, 114943, 246015, 508159, 1048575, 2097151, 4194303, 8388607, 16777215, 33554431]
theorem fullerref10_Check.tab7 : rtab .any (opsOf Try.f31 7) = fullerref10_Check.T7 := by kernel_rfl
theorem fullerref10_Check.bits7 : waitsOk fullerref10_Check.T7.2 fullerref10_Check.B7 = true := by kernel_rfl
def fullerref10_Check.T17 : Bool × List (List Nat × List Nat) := (true, [([], []), ([], []), ([0, 1], [0, 1]), ([2], [2]), ([], []), ([], []), ([4, 5], [4, 5]), ([6], [6]), ([3, 7], [3, 7]), ([8, 8, 0, 1, 2, 3, 4, 5, 6, 7, 8], [8])])
def fullerref10_Check.B17 : List Nat := [0, 0, 3, 7, 0, 0, 48, 112, 255, 511]
theorem fullerref10_Check.tab17 : rtab .any (opsOf Try.f31 17) = fullerref10_Check.T17 := by kernel_rfl
theorem fullerref10_Check.bits17 : waitsOk fullerref10_Check.T17.2 fullerref10_Check.B17 = true := by kernel_rfl
set_option maxHeartbeats 8000000 in
set_option maxRecDepth 100000 in
theorem fullerref10_Check.calls (k : Nat) (A0 : Option Addr) (c0 : Nat) (l0 : List (S25)) (r : Bool) (w : World) (hr0 : Kd.C k25 w A0 l0.length l0) (hc0 : l0.length ≤ c0) (h : fullerref10_Check.f k l0 = some r) :
  Calls Try.prog 31 #[.slice A0 l0.length c0] w fun e w' => e = .returned (.bool r) ∧ Below w.heap.size w w' := by
 have hu25 := Try.underlying25
 have HR0 := Aside0.mk hr0
 have HC0 := Aside0.mk hc0
 clear hr0 hc0
 have HB := Aside0.mk (Below.refl w.heap.size w)
 have H : (if (l0.length : Int) < 1 then (fullerref10_Check.j0 k l0 true) else (fullerref10_Check.j0 k l0 (decide ((l0.length : Int) > 24)))) = some r := h
 clear h
 have HC2 := Aside0.mk H
 clear H
 go_enter Try.func31, Try.ntmps31
 go_upto_region 1 with (fail)
 go_cut [15] (fun v15 wc => ∃ (kq : Nat) (x15_1 : Bool), v15 = .bool x15_1 ∧ Aside0 (fullerref10_Check.j0 kq l0 x15_1 = some r) ∧ Aside0 (kq ≤ k) ∧ Aside0 (Below w.heap.size w wc))
 case first =>
  have H := HC2.out
  clear HC2
  by_cases c3 : (l0.length : Int) < 1
  ·rw [if_pos c3] at H
   have c3b0 : decide ((l0.length : Int) < 1) = true := decide_eq_true c3
   have c3b1 : decide (l0.length < 1) = true := decide_eq_true (by omega)
   clear c3
   (first | rw [c3b0] | (simp only [i64_w, i32_w]; rw [c3b0]) | skip)
   have H' := Aside0.mk H
   clear H
   go_wp2
   go_meet
   case rel => exact ⟨_, (true), (by first | rfl | (simp; done) | (simp [*]; done)), H', ⟨by first | omega | exact Nat.le_refl _⟩, ⟨bq0_ HB.out⟩⟩
  ·rw [if_neg c3] at H
   have c3b0 : decide ((l0.length : Int) < 1) = false := decide_eq_false c3
   have c3b1 : decide (l0.length < 1) = false := decide_eq_false (by omega)
   clear c3
   (first | rw [c3b0] | (simp only [i64_w, i32_w]; rw [c3b0]) | skip)
   have H' := Aside0.mk H
   clear H
   go_wp2
   go_meet
   case rel => exact ⟨_, (decide ((l0.length : Int) > 24)), (by first | rfl | (simp; done) | (simp [*]; done)), H', ⟨by first | omega | exact Nat.le_refl _⟩, ⟨bq0_ HB.out⟩⟩
 case rest =>
  clear HC2
  try clear p2
  try clear c3
  try clear c3b0
  try clear c3b1
  obtain ⟨kq, x15_1, rfl, HA, HJ1, HB⟩ := hcut
  cases kq with
  | zero => exact absurd HA.out (by simp [fullerref10_Check.j0])
  | succ kj1 =>
   have H := HA.out
   clear HA
   simp only [fullerref10_Check.j0] at H
   by_cases c4 : x15_1 = true
   ·subst c4
    have H1 : (some false) = some r := by rw [if_pos rfl] at H; exact H
    clear H
    have H := H1
    clear H1
    obtain rfl := Option.some.inj H
    go_wp2
    go_ret
    exact ⟨by first | rfl | (simp <;> rfl) | (simp [*] <;> rfl), bq0_ HB.out⟩
   ·replace c4 := Bool.eq_false_iff.mpr c4
    subst c4
    have H1 : (fullerref10_Check.l0 kj1 l0 0) = some r := by rw [if_neg (show ¬ (false = true) by decide)] at H; exact H
    clear H
    have H := H1
    clear H1
    have H' := Aside0.mk H
    clear H
    go_wp2
    go_loopg [3] kj1 (fun kq v3 w' => ∃ (x3_2 : Int), v3 = .int .i64 x3_2 ∧ Aside0 (fullerref10_Check.l0 kq l0 x3_2 = some r) ∧ Aside0 (kq ≤ kj1) ∧ Aside0 (Below w.heap.size w w'))
    case atStart => exact ⟨(0), (by first | rfl | (simp; done) | (simp [*]; done)), H', ⟨Nat.le_refl _⟩, ⟨bq0_ HB.out⟩⟩
    case round =>
     clear H'
     try clear p2
     try clear c3
     try clear c3b0
     try clear c3b1
     try clear c4
     try clear p2
     obtain ⟨x3_2, rfl, HA, HK2, HB⟩ := hrel
     cases gk with
     | zero => exact absurd HA.out (by simp [fullerref10_Check.l0])
     | succ k2 =>
      have H := HA.out
      clear HA
      simp only [fullerref10_Check.l0] at H
      by_cases c5 : x3_2 < (l0.length : Int)
      ·rw [if_pos c5] at H
       have c5b0 : decide (x3_2 < (l0.length : Int)) = true := decide_eq_true c5
       clear c5
       by_cases c6 : 0 ≤ x3_2
       ·rw [if_pos c6] at H
        have c6b0 : decide (0 ≤ x3_2) = true := decide_eq_true c6
        clear c6
        replace H := Option.bind_eq_some_iff.mp H
        obtain ⟨t296, A70, H⟩ := H
        replace H : ((fullerref10_Arity.f k2 ((rd_T25 l0 x3_2).f0)).bind fun t298 => (if t298 < 0 then (fullerref10_Check.j2 k2 l0 x3_2 true) else ((fullerref10_Arity.f k2 ((rd_T25 l0 x3_2).f0)).bind fun t301 => (if (((rd_T25 l0 x3_2).f1).length : Int) = t301 then (fullerref10_Check.j2 k2 l0 x3_2 (!t296)) else (fullerref10_Check.j2 k2 l0 x3_2 true))))) = some r := H
        have A7 := Aside0.mk A70
        clear A70
        have HC8 := Aside0.mk H
        clear H
        have p295 : 0 ≤ (x3_2 : Int) := od_
        have q295 : x3_2 < (l0.length : Int) := od_
        obtain ⟨ad295, A295_1, c295_1, A295_2, c295_2, e295, hx295_0, hx295_1, hx295_2, hl295_1, hi295_1, hl295_2, hi295_2⟩ := at_T25 HR0.out x3_2 p295 q295
        cases e295
        replace hx295_0 := hb_ HB hx295_0
        replace hx295_1 := hb_ HB hx295_1
        replace hx295_2 := hb_ HB hx295_2
        have HR295_1 := Aside0.mk hi295_1
        have HC295_1 := Aside0.mk hl295_1
        clear hi295_1 hl295_1
        have HR295_2 := Aside0.mk hi295_2
        have HC295_2 := Aside0.mk hl295_2
        clear hi295_2 hl295_2
        replace p295 := eq_true p295
        replace q295 := eq_true q295
        go_upto_region 7 with (first | ((with_reducible refine gate_callee (f := 58) rfl ?_); refine gL_ (some 26) Try.func58 #[.agg #[.int .i64 ((rd_T25 l0 x3_2).f0), .slice A295_1 ((rd_T25 l0 x3_2).f1).length c295_1, .slice A295_2 ((rd_T25 l0 x3_2).f2).length c295_2]] ?_; (with_reducible refine (fullerref10_nums.calls k2 ((rd_T25 l0 x3_2).f0) _ _ ((rd_T25 l0 x3_2).f1) _ _ ((rd_T25 l0 x3_2).f2) t296 _ ?side1 ?side2 ?side3 ?side4 A7.out).mono ?_); (case side1 => exact mvC_ ((Kd.C_below HR295_1.out HB.out))); (case side2 => exact HC295_1.out); (case side3 => exact mvC_ ((Kd.C_below HR295_2.out HB.out))); (case side4 => exact HC295_2.out); rintro e w9 ⟨rfl, hb⟩; refine ⟨_, rfl, ?_⟩; replace HB := Aside0.mk (below_step (bq0_ HB.out) hb); (try clear hb)))
        (try simp only [Act.put, sA_, sB_, sC_])
        go_cut [52] (fun v52 wc => ∃ (kq : Nat) (x52_7 : Bool), v52 = .bool x52_7 ∧ Aside0 (fullerref10_Check.j2 kq l0 x3_2 x52_7 = some r) ∧ Aside0 (kq ≤ k2) ∧ Aside0 (Below w.heap.size w wc))
        case first =>
         have H := HC8.out
         clear HC8
         replace H := Option.bind_eq_some_iff.mp H
         obtain ⟨t298, A100, H⟩ := H
         replace H : (if t298 < 0 then (fullerref10_Check.j2 k2 l0 x3_2 true) else ((fullerref10_Arity.f k2 ((rd_T25 l0 x3_2).f0)).bind fun t301 => (if (((rd_T25 l0 x3_2).f1).length : Int) = t301 then (fullerref10_Check.j2 k2 l0 x3_2 (!t296)) else (fullerref10_Check.j2 k2 l0 x3_2 true)))) = some r := H
         have A10 := Aside0.mk A100
         clear A100
         by_cases c11 : t298 < 0
         ·rw [if_pos c11] at H
          have c11b0 : decide (t298 < 0) = true := decide_eq_true c11
          clear c11
          (first | rw [c11b0] | (simp only [i64_w, i32_w]; rw [c11b0]) | skip)
          have H' := Aside0.mk H
          clear H
          try go_wp2
          replace HB := Aside0.mk (below_drew1 HB.out)
          have p297 : 0 ≤ (x3_2 : Int) := od_
          have q297 : x3_2 < (l0.length : Int) := od_
          obtain ⟨ad297, A297_1, c297_1, A297_2, c297_2, e297, hx297_0, hx297_1, hx297_2, hl297_1, hi297_1, hl297_2, hi297_2⟩ := at_T25 HR0.out x3_2 p297 q297
          have hw297_2 := hx297_2
          have hw297_1 := hx297_1
          have hw297_0 := hx297_0
          obtain rfl : ad295 = ad297 := (by injection e297)
          replace hx297_0 := hb_ HB hx297_0
          replace hx297_1 := hb_ HB hx297_1
          replace hx297_2 := hb_ HB hx297_2
          have HR297_1 := Aside0.mk hi297_1
          have HC297_1 := Aside0.mk hl297_1
          clear hi297_1 hl297_1
          have HR297_2 := Aside0.mk hi297_2
          have HC297_2 := Aside0.mk hl297_2
          clear hi297_2 hl297_2
          replace p297 := eq_true p297
          replace q297 := eq_true q297
          refine start_ (n := 26) (S := fun w' => w'.cell? (ad295.add ((x3_2).toNat * 3)) = some (.int .i64 ((rd_T25 l0 x3_2).f0)) ∧ w'.cell? ⟨(ad295.add ((x3_2).toNat * 3)).block, (ad295.add ((x3_2).toNat * 3)).off + 1, none⟩ = some (.slice A297_1 ((rd_T25 l0 x3_2).f1).length c297_1) ∧ w'.cell? ⟨(ad295.add ((x3_2).toNat * 3)).block, (ad295.add ((x3_2).toNat * 3)).off + 2, none⟩ = some (.slice A297_2 ((rd_T25 l0 x3_2).f2).length c297_2)) (ds := []) L31_0 (by kernel_rfl) rfl rfl ⟨((HB.out.cell (World.block_lt_of_cell? w _ hw297_0)).trans hw297_0), ((HB.out.cell (World.block_lt_of_cell? w _ hw297_1)).trans hw297_1), ((HB.out.cell (World.block_lt_of_cell? w _ hw297_2)).trans hw297_2)⟩ (fun hHeld => ?_); refine with_tabW fullerref10_Check.tab7 fullerref10_Check.bits7 (fun HT_ HW_ => ?_)
          generalize w9.drew = w12 at HB HR297_1 HR297_2 hx297_0 hx297_1 hx297_2 hHeld ⊢
          refine pu_ 0 (some 27) L31_1 HT_ ?_
          refine pu_ 1 (some 28) L31_2 HT_ ?_
          refine pu_ 2 (some 29) L31_3 HT_ ?_
          refine pu_ 3 (some 30) L31_4 HT_ ?_
          refine ta_ 4 (some 31) L31_5 HT_ HW_ hHeld ?_ (hy := by rintro w' ⟨s0, s1, s2⟩; go_simp; with_reducible rfl)
          refine one_ (i := 5) (N := some 32) L31_6 rfl rfl (one_of HT_.out (by kernel_rfl)) (by decide) (fun K hK => ?_)
          refine goes_ Try.func25 (by kernel_rfl) rfl #[.int .i64 ((rd_T25 l0 x3_2).f0)] (by rfl) rfl rfl (by (try simp only [List.map_toArray, List.map_cons, List.map_nil]); first | done | rfl | (simp only [List.length_drop, List.length_take]; rfl)) ?_
          with_reducible refine (fullerref10_Arity.calls k2 ((rd_T25 l0 x3_2).f0) t298 _ A10.out).mono ?_
          rintro e w' ⟨rfl, ⟨nd, rfl⟩⟩
          refine ⟨_, rfl, ?_⟩
          refine hK.out _ _ ⟨((HB.out.cell (World.block_lt_of_cell? w _ hw297_0)).trans hw297_0), ((HB.out.cell (World.block_lt_of_cell? w _ hw297_1)).trans hw297_1), ((HB.out.cell (World.block_lt_of_cell? w _ hw297_2)).trans hw297_2)⟩ (fun hHeld => ?_)
          clear hK K
          refine norm_ (a' := ?_) ?_ ?_
          rotate_left
          ·show Act.put _ (some 32) _ = _
           simp only [Act.put, sA_, sB_, sC_, i64_w, i32_w]
           rfl
          refine pu_ 6 (some 33) L31_7 HT_ ?_
          refine pu_ 7 (some 34) L31_8 HT_ ?_
          refine skips_ (fuel := 5) (m := 18) HT_.out (fun _ _ _ _ _ h => h) [(8, 35), (9, 36), (10, 37), (11, 38), (12, 39), (13, 40), (14, 41), (15, 42), (16, 43), (17, 44), (18, 45), (19, 46), (20, 47)] L31_9 rfl (by kernel_rfl) (by kernel_rfl) (a' := ?_) ?_ ?_
          rotate_left
          ·simp only [putU, Act.put, sA_, sB_, sC_]
           rfl
          refine pu_ 21 (some 48) L31_10 HT_ ?_
          refine pu_ 22 (some 49) L31_11 HT_ ?_
          refine skips_ (fuel := 1) (m := 3) HT_.out (fun _ _ _ _ _ h => h) [(23, 50), (24, 51)] L31_12 rfl (by kernel_rfl) (by kernel_rfl) (a' := ?_) ?_ ?_
          rotate_left
          ·simp only [putU, Act.put, sA_, sB_, sC_]
           rfl
          refine pu_ 25 (some 52) L31_13 HT_ ?_
          refine done_ (done_of HT_.out (by kernel_rfl)) ?_
          try go_wp2
          go_meet
          case rel => exact ⟨_, (true), (by first | rfl | (simp; done) | (simp [*]; done)), H', ⟨by have := HJ1.out; have := HK2.out; first | omega | exact Nat.le_refl _⟩, ⟨bq0_ HB.out⟩⟩
         ·rw [if_neg c11] at H
          have c11b0 : decide (t298 < 0) = false := decide_eq_false c11
          clear c11
          (first | rw [c11b0] | (simp only [i64_w, i32_w]; rw [c11b0]) | skip)
          replace H := Option.bind_eq_some_iff.mp H
          obtain ⟨t301, A130, H⟩ := H
          replace H : (if (((rd_T25 l0 x3_2).f1).length : Int) = t301 then (fullerref10_Check.j2 k2 l0 x3_2 (!t296)) else (fullerref10_Check.j2 k2 l0 x3_2 true)) = some r := H
          have A13 := Aside0.mk A130
          clear A130
          by_cases c14 : (((rd_T25 l0 x3_2).f1).length : Int) = t301
          ·rw [if_pos c14] at H
           obtain ⟨c14b0, c14b1⟩ := eqT_ c14
           clear c14
           have H' := Aside0.mk H
           clear H
           try go_wp2
           replace HB := Aside0.mk (below_drew1 HB.out)
           have p297 : 0 ≤ (x3_2 : Int) := od_
           have q297 : x3_2 < (l0.length : Int) := od_
           obtain ⟨ad297, A297_1, c297_1, A297_2, c297_2, e297, hx297_0, hx297_1, hx297_2, hl297_1, hi297_1, hl297_2, hi297_2⟩ := at_T25 HR0.out x3_2 p297 q297
           have hw297_2 := hx297_2
           have hw297_1 := hx297_1
           have hw297_0 := hx297_0
           obtain rfl : ad295 = ad297 := (by injection e297)
           replace hx297_0 := hb_ HB hx297_0
           replace hx297_1 := hb_ HB hx297_1
           replace hx297_2 := hb_ HB hx297_2
           have HR297_1 := Aside0.mk hi297_1
           have HC297_1 := Aside0.mk hl297_1
           clear hi297_1 hl297_1
           have HR297_2 := Aside0.mk hi297_2
           have HC297_2 := Aside0.mk hl297_2
           clear hi297_2 hl297_2
           replace p297 := eq_true p297
           replace q297 := eq_true q297
           have p299 : 0 ≤ (x3_2 : Int) := od_
           have q299 : x3_2 < (l0.length : Int) := od_
           obtain ⟨ad299, A299_1, c299_1, A299_2, c299_2, e299, hx299_0, hx299_1, hx299_2, hl299_1, hi299_1, hl299_2, hi299_2⟩ := at_T25 HR0.out x3_2 p299 q299
           have hw299_2 := hx299_2
           have hw299_1 := hx299_1
           have hw299_0 := hx299_0
           obtain rfl : ad295 = ad299 := (by injection e299)
           replace hx299_0 := hb_ HB hx299_0
           replace hx299_1 := hb_ HB hx299_1
           replace hx299_2 := hb_ HB hx299_2
           have HR299_1 := Aside0.mk hi299_1
           have HC299_1 := Aside0.mk hl299_1
           clear hi299_1 hl299_1
           have HR299_2 := Aside0.mk hi299_2
           have HC299_2 := Aside0.mk hl299_2
           clear hi299_2 hl299_2
           replace p299 := eq_true p299
           replace q299 := eq_true q299
           have ea_ := Option.some.inj (hx297_1.symm.trans hx299_1)
           injection ea_ with ea_ en_ ec_
           subst ea_
           subst ec_
           clear en_
           have ea_ := Option.some.inj (hx297_2.symm.trans hx299_2)
           injection ea_ with ea_ en_ ec_
           subst ea_
           subst ec_
           clear en_
           have p300 : 0 ≤ (x3_2 : Int) := od_
           have q300 : x3_2 < (l0.length : Int) := od_
           obtain ⟨ad300, A300_1, c300_1, A300_2, c300_2, e300, hx300_0, hx300_1, hx300_2, hl300_1, hi300_1, hl300_2, hi300_2⟩ := at_T25 HR0.out x3_2 p300 q300
           have hw300_2 := hx300_2
           have hw300_1 := hx300_1
           have hw300_0 := hx300_0
           obtain rfl : ad295 = ad300 := (by injection e300)
           replace hx300_0 := hb_ HB hx300_0
           replace hx300_1 := hb_ HB hx300_1
           replace hx300_2 := hb_ HB hx300_2
           have HR300_1 := Aside0.mk hi300_1
           have HC300_1 := Aside0.mk hl300_1
           clear hi300_1 hl300_1
           have HR300_2 := Aside0.mk hi300_2
           have HC300_2 := Aside0.mk hl300_2
           clear hi300_2 hl300_2
           replace p300 := eq_true p300
           replace q300 := eq_true q300
           have ea_ := Option.some.inj (hx297_1.symm.trans hx300_1)
           injection ea_ with ea_ en_ ec_
           subst ea_
           subst ec_
           clear en_
           have ea_ := Option.some.inj (hx297_2.symm.trans hx300_2)
           injection ea_ with ea_ en_ ec_
           subst ea_
           subst ec_
           clear en_
           refine start_ (n := 26) (S := fun w' => w'.cell? (ad295.add ((x3_2).toNat * 3)) = some (.int .i64 ((rd_T25 l0 x3_2).f0)) ∧ w'.cell? ⟨(ad295.add ((x3_2).toNat * 3)).block, (ad295.add ((x3_2).toNat * 3)).off + 1, none⟩ = some (.slice A297_1 ((rd_T25 l0 x3_2).f1).length c297_1) ∧ w'.cell? ⟨(ad295.add ((x3_2).toNat * 3)).block, (ad295.add ((x3_2).toNat * 3)).off + 2, none⟩ = some (.slice A297_2 ((rd_T25 l0 x3_2).f2).length c297_2) ∧ w'.cell? (ad295.add ((x3_2).toNat * 3)) = some (.int .i64 ((rd_T25 l0 x3_2).f0)) ∧ w'.cell? ⟨(ad295.add ((x3_2).toNat * 3)).block, (ad295.add ((x3_2).toNat * 3)).off + 1, none⟩ = some (.slice A297_1 ((rd_T25 l0 x3_2).f1).length c297_1) ∧ w'.cell? ⟨(ad295.add ((x3_2).toNat * 3)).block, (ad295.add ((x3_2).toNat * 3)).off + 2, none⟩ = some (.slice A297_2 ((rd_T25 l0 x3_2).f2).length c297_2) ∧ w'.cell? (ad295.add ((x3_2).toNat * 3)) = some (.int .i64 ((rd_T25 l0 x3_2).f0)) ∧ w'.cell? ⟨(ad295.add ((x3_2).toNat * 3)).block, (ad295.add ((x3_2).toNat * 3)).off + 1, none⟩ = some (.slice A297_1 ((rd_T25 l0 x3_2).f1).length c297_1) ∧ w'.cell? ⟨(ad295.add ((x3_2).toNat * 3)).block, (ad295.add ((x3_2).toNat * 3)).off + 2, none⟩ = some (.slice A297_2 ((rd_T25 l0 x3_2).f2).length c297_2)) (ds := []) L31_0 (by kernel_rfl) rfl rfl ⟨((HB.out.cell (World.block_lt_of_cell? w _ hw297_0)).trans hw297_0), ((HB.out.cell (World.block_lt_of_cell? w _ hw297_1)).trans hw297_1), ((HB.out.cell (World.block_lt_of_cell? w _ hw297_2)).trans hw297_2), ((HB.out.cell (World.block_lt_of_cell? w _ hw299_0)).trans hw299_0), ((HB.out.cell (World.block_lt_of_cell? w _ hw299_1)).trans hw299_1), ((HB.out.cell (World.block_lt_of_cell? w _ hw299_2)).trans hw299_2), ((HB.out.cell (World.block_lt_of_cell? w _ hw300_0)).trans hw300_0), ((HB.out.cell (World.block_lt_of_cell? w _ hw300_1)).trans hw300_1), ((HB.out.cell (World.block_lt_of_cell? w _ hw300_2)).trans hw300_2)⟩ (fun hHeld => ?_); refine with_tabW fullerref10_Check.tab7 fullerref10_Check.bits7 (fun HT_ HW_ => ?_)
           generalize w9.drew = w15 at HB HR297_1 HR297_2 HR299_1 HR299_2 HR300_1 HR300_2 hx297_0 hx297_1 hx297_2 hx299_0 hx299_1 hx299_2 hx300_0 hx300_1 hx300_2 hHeld ⊢
           refine pu_ 0 (some 27) L31_1 HT_ ?_
           refine pu_ 1 (some 28) L31_2 HT_ ?_
           refine pu_ 2 (some 29) L31_3 HT_ ?_
           refine pu_ 3 (some 30) L31_4 HT_ ?_
           refine ta_ 4 (some 31) L31_5 HT_ HW_ hHeld ?_ (hy := by rintro w' ⟨s0, s1, s2, s3, s4, s5, s6, s7, s8⟩; go_simp; with_reducible rfl)
           refine one_ (i := 5) (N := some 32) L31_6 rfl rfl (one_of HT_.out (by kernel_rfl)) (by decide) (fun K hK => ?_)
           refine goes_ Try.func25 (by kernel_rfl) rfl #[.int .i64 ((rd_T25 l0 x3_2).f0)] (by rfl) rfl rfl (by (try simp only [List.map_toArray, List.map_cons, List.map_nil]); first | done | rfl | (simp only [List.length_drop, List.length_take]; rfl)) ?_
           with_reducible refine (fullerref10_Arity.calls k2 ((rd_T25 l0 x3_2).f0) t298 _ A10.out).mono ?_
           rintro e w' ⟨rfl, ⟨nd, rfl⟩⟩
           refine ⟨_, rfl, ?_⟩
           refine hK.out _ _ ⟨((HB.out.cell (World.block_lt_of_cell? w _ hw297_0)).trans hw297_0), ((HB.out.cell (World.block_lt_of_cell? w _ hw297_1)).trans hw297_1), ((HB.out.cell (World.block_lt_of_cell? w _ hw297_2)).trans hw297_2), ((HB.out.cell (World.block_lt_of_cell? w _ hw299_0)).trans hw299_0), ((HB.out.cell (World.block_lt_of_cell? w _ hw299_1)).trans hw299_1), ((HB.out.cell (World.block_lt_of_cell? w _ hw299_2)).trans hw299_2), ((HB.out.cell (World.block_lt_of_cell? w _ hw300_0)).trans hw300_0), ((HB.out.cell (World.block_lt_of_cell? w _ hw300_1)).trans hw300_1), ((HB.out.cell (World.block_lt_of_cell? w _ hw300_2)).trans hw300_2)⟩ (fun hHeld => ?_)
           clear hK K
           refine norm_ (a' := ?_) ?_ ?_
           rotate_left
           ·show Act.put _ (some 32) _ = _
            simp only [Act.put, sA_, sB_, sC_, i64_w, i32_w]
            rfl
           refine pu_ 6 (some 33) L31_7 HT_ ?_
           refine pu_ 7 (some 34) L31_8 HT_ ?_
           refine pu_ 8 (some 35) L31_14 HT_ ?_
           refine pu_ 9 (some 36) L31_15 HT_ ?_
           refine pu_ 10 (some 37) L31_16 HT_ ?_
           refine pu_ 11 (some 38) L31_17 HT_ ?_
           refine pu_ 14 (some 41) L31_18 HT_ ?_
           refine pu_ 15 (some 42) L31_19 HT_ ?_
           refine pu_ 16 (some 43) L31_20 HT_ ?_
           refine pu_ 17 (some 44) L31_21 HT_ ?_
           refine ta_ 12 (some 39) L31_22 HT_ HW_ hHeld ?_ (hy := by rintro w' ⟨s0, s1, s2, s3, s4, s5, s6, s7, s8⟩; go_simp; with_reducible rfl)
           refine pu_ 13 (some 40) L31_23 HT_ ?_
           refine ta_ 18 (some 45) L31_24 HT_ HW_ hHeld ?_ (hy := by rintro w' ⟨s0, s1, s2, s3, s4, s5, s6, s7, s8⟩; go_simp; with_reducible rfl)
           refine one_ (i := 19) (N := some 46) L31_25 rfl rfl (one_of HT_.out (by kernel_rfl)) (by decide) (fun K hK => ?_)
           refine goes_ Try.func25 (by kernel_rfl) rfl #[.int .i64 ((rd_T25 l0 x3_2).f0)] (by rfl) rfl rfl (by (try simp only [List.map_toArray, List.map_cons, List.map_nil]); first | done | rfl | (simp only [List.length_drop, List.length_take]; rfl)) ?_
           with_reducible refine (fullerref10_Arity.calls k2 ((rd_T25 l0 x3_2).f0) t301 _ A13.out).mono ?_
           rintro e w' ⟨rfl, ⟨nd, rfl⟩⟩
           refine ⟨_, rfl, ?_⟩
           refine hK.out _ _ ⟨((HB.out.cell (World.block_lt_of_cell? w _ hw297_0)).trans hw297_0), ((HB.out.cell (World.block_lt_of_cell? w _ hw297_1)).trans hw297_1), ((HB.out.cell (World.block_lt_of_cell? w _ hw297_2)).trans hw297_2), ((HB.out.cell (World.block_lt_of_cell? w _ hw299_0)).trans hw299_0), ((HB.out.cell (World.block_lt_of_cell? w _ hw299_1)).trans hw299_1), ((HB.out.cell (World.block_lt_of_cell? w _ hw299_2)).trans hw299_2), ((HB.out.cell (World.block_lt_of_cell? w _ hw300_0)).trans hw300_0), ((HB.out.cell (World.block_lt_of_cell? w _ hw300_1)).trans hw300_1), ((HB.out.cell (World.block_lt_of_cell? w _ hw300_2)).trans hw300_2)⟩ (fun hHeld => ?_)
           clear hK K
           refine norm_ (a' := ?_) ?_ ?_
           rotate_left
           ·show Act.put _ (some 46) _ = _
            simp only [Act.put, sA_, sB_, sC_, i64_w, i32_w]
            rfl
           refine pu_ 20 (some 47) L31_9 HT_ ?_
           refine pu_ 21 (some 48) L31_10 HT_ ?_
           refine pu_ 22 (some 49) L31_11 HT_ ?_
           refine pu_ 23 (some 50) L31_26 HT_ ?_
           refine pu_ 24 (some 51) L31_12 HT_ ?_
           refine pu_ 25 (some 52) L31_13 HT_ ?_
           refine done_ (done_of HT_.out (by kernel_rfl)) ?_
           try go_wp2
           go_meet
           case rel => exact ⟨_, (!t296), (by first | rfl | (simp; done) | (simp [*]; done)), H', ⟨by have := HJ1.out; have := HK2.out; first | omega | exact Nat.le_refl _⟩, ⟨bq0_ HB.out⟩⟩
          ·rw [if_neg c14] at H
           have c14b0 : ((((rd_T25 l0 x3_2).f1).length : Int) == t301) = false := beq_eq_false_iff_ne.mpr c14
           have c14b1 : ((((rd_T25 l0 x3_2).f1).length : Int) != t301) = true := bne_iff_ne.mpr c14
           have H' := Aside0.mk H
           clear H
           try go_wp2
           replace HB := Aside0.mk (below_drew1 HB.out)
           have p297 : 0 ≤ (x3_2 : Int) := od_
           have q297 : x3_2 < (l0.length : Int) := od_
           obtain ⟨ad297, A297_1, c297_1, A297_2, c297_2, e297, hx297_0, hx297_1, hx297_2, hl297_1, hi297_1, hl297_2, hi297_2⟩ := at_T25 HR0.out x3_2 p297 q297
           have hw297_2 := hx297_2
           have hw297_1 := hx297_1
           have hw297_0 := hx297_0
           obtain rfl : ad295 = ad297 := (by injection e297)
           replace hx297_0 := hb_ HB hx297_0
           replace hx297_1 := hb_ HB hx297_1
           replace hx297_2 := hb_ HB hx297_2
           have HR297_1 := Aside0.mk hi297_1
           have HC297_1 := Aside0.mk hl297_1
           clear hi297_1 hl297_1
           have HR297_2 := Aside0.mk hi297_2
           have HC297_2 := Aside0.mk hl297_2
           clear hi297_2 hl297_2
           replace p297 := eq_true p297
           replace q297 := eq_true q297
           have p299 : 0 ≤ (x3_2 : Int) := od_
           have q299 : x3_2 < (l0.length : Int) := od_
           obtain ⟨ad299, A299_1, c299_1, A299_2, c299_2, e299, hx299_0, hx299_1, hx299_2, hl299_1, hi299_1, hl299_2, hi299_2⟩ := at_T25 HR0.out x3_2 p299 q299
           have hw299_2 := hx299_2
           have hw299_1 := hx299_1
           have hw299_0 := hx299_0
           obtain rfl : ad295 = ad299 := (by injection e299)
           replace hx299_0 := hb_ HB hx299_0
           replace hx299_1 := hb_ HB hx299_1
           replace hx299_2 := hb_ HB hx299_2
           have HR299_1 := Aside0.mk hi299_1
           have HC299_1 := Aside0.mk hl299_1
           clear hi299_1 hl299_1
           have HR299_2 := Aside0.mk hi299_2
           have HC299_2 := Aside0.mk hl299_2
           clear hi299_2 hl299_2
           replace p299 := eq_true p299
           replace q299 := eq_true q299
           have ea_ := Option.some.inj (hx297_1.symm.trans hx299_1)
           injection ea_ with ea_ en_ ec_
           subst ea_
           subst ec_
           clear en_
           have ea_ := Option.some.inj (hx297_2.symm.trans hx299_2)
           injection ea_ with ea_ en_ ec_
           subst ea_
           subst ec_
           clear en_
           have p300 : 0 ≤ (x3_2 : Int) := od_
           have q300 : x3_2 < (l0.length : Int) := od_
           obtain ⟨ad300, A300_1, c300_1, A300_2, c300_2, e300, hx300_0, hx300_1, hx300_2, hl300_1, hi300_1, hl300_2, hi300_2⟩ := at_T25 HR0.out x3_2 p300 q300
           have hw300_2 := hx300_2
           have hw300_1 := hx300_1
           have hw300_0 := hx300_0
           obtain rfl : ad295 = ad300 := (by injection e300)
           replace hx300_0 := hb_ HB hx300_0
           replace hx300_1 := hb_ HB hx300_1
           replace hx300_2 := hb_ HB hx300_2
           have HR300_1 := Aside0.mk hi300_1
           have HC300_1 := Aside0.mk hl300_1
           clear hi300_1 hl300_1
           have HR300_2 := Aside0.mk hi300_2
           have HC300_2 := Aside0.mk hl300_2
           clear hi300_2 hl300_2
           replace p300 := eq_true p300
           replace q300 := eq_true q300
           have ea_ := Option.some.inj (hx297_1.symm.trans hx300_1)
           injection ea_ with ea_ en_ ec_
           subst ea_
           subst ec_
           clear en_
           have ea_ := Option.some.inj (hx297_2.symm.trans hx300_2)
           injection ea_ with ea_ en_ ec_
           subst ea_
           subst ec_
           clear en_
           refine start_ (n := 26) (S := fun w' => w'.cell? (ad295.add ((x3_2).toNat * 3)) = some (.int .i64 ((rd_T25 l0 x3_2).f0)) ∧ w'.cell? ⟨(ad295.add ((x3_2).toNat * 3)).block, (ad295.add ((x3_2).toNat * 3)).off + 1, none⟩ = some (.slice A297_1 ((rd_T25 l0 x3_2).f1).length c297_1) ∧ w'.cell? ⟨(ad295.add ((x3_2).toNat * 3)).block, (ad295.add ((x3_2).toNat * 3)).off + 2, none⟩ = some (.slice A297_2 ((rd_T25 l0 x3_2).f2).length c297_2) ∧ w'.cell? (ad295.add ((x3_2).toNat * 3)) = some (.int .i64 ((rd_T25 l0 x3_2).f0)) ∧ w'.cell? ⟨(ad295.add ((x3_2).toNat * 3)).block, (ad295.add ((x3_2).toNat * 3)).off + 1, none⟩ = some (.slice A297_1 ((rd_T25 l0 x3_2).f1).length c297_1) ∧ w'.cell? ⟨(ad295.add ((x3_2).toNat * 3)).block, (ad295.add ((x3_2).toNat * 3)).off + 2, none⟩ = some (.slice A297_2 ((rd_T25 l0 x3_2).f2).length c297_2) ∧ w'.cell? (ad295.add ((x3_2).toNat * 3)) = some (.int .i64 ((rd_T25 l0 x3_2).f0)) ∧ w'.cell? ⟨(ad295.add ((x3_2).toNat * 3)).block, (ad295.add ((x3_2).toNat * 3)).off + 1, none⟩ = some (.slice A297_1 ((rd_T25 l0 x3_2).f1).length c297_1) ∧ w'.cell? ⟨(ad295.add ((x3_2).toNat * 3)).block, (ad295.add ((x3_2).toNat * 3)).off + 2, none⟩ = some (.slice A297_2 ((rd_T25 l0 x3_2).f2).length c297_2)) (ds := []) L31_0 (by kernel_rfl) rfl rfl ⟨((HB.out.cell (World.block_lt_of_cell? w _ hw297_0)).trans hw297_0), ((HB.out.cell (World.block_lt_of_cell? w _ hw297_1)).trans hw297_1), ((HB.out.cell (World.block_lt_of_cell? w _ hw297_2)).trans hw297_2), ((HB.out.cell (World.block_lt_of_cell? w _ hw299_0)).trans hw299_0), ((HB.out.cell (World.block_lt_of_cell? w _ hw299_1)).trans hw299_1), ((HB.out.cell (World.block_lt_of_cell? w _ hw299_2)).trans hw299_2), ((HB.out.cell (World.block_lt_of_cell? w _ hw300_0)).trans hw300_0), ((HB.out.cell (World.block_lt_of_cell? w _ hw300_1)).trans hw300_1), ((HB.out.cell (World.block_lt_of_cell? w _ hw300_2)).trans hw300_2)⟩ (fun hHeld => ?_); refine with_tabW fullerref10_Check.tab7 fullerref10_Check.bits7 (fun HT_ HW_ => ?_)
           generalize w9.drew = w16 at HB HR297_1 HR297_2 HR299_1 HR299_2 HR300_1 HR300_2 hx297_0 hx297_1 hx297_2 hx299_0 hx299_1 hx299_2 hx300_0 hx300_1 hx300_2 hHeld ⊢
           refine pu_ 0 (some 27) L31_1 HT_ ?_
           refine pu_ 1 (some 28) L31_2 HT_ ?_
           refine pu_ 2 (some 29) L31_3 HT_ ?_
           refine pu_ 3 (some 30) L31_4 HT_ ?_
           refine ta_ 4 (some 31) L31_5 HT_ HW_ hHeld ?_ (hy := by rintro w' ⟨s0, s1, s2, s3, s4, s5, s6, s7, s8⟩; go_simp; with_reducible rfl)
           refine one_ (i := 5) (N := some 32) L31_6 rfl rfl (one_of HT_.out (by kernel_rfl)) (by decide) (fun K hK => ?_)
           refine goes_ Try.func25 (by kernel_rfl) rfl #[.int .i64 ((rd_T25 l0 x3_2).f0)] (by rfl) rfl rfl (by (try simp only [List.map_toArray, List.map_cons, List.map_nil]); first | done | rfl | (simp only [List.length_drop, List.length_take]; rfl)) ?_
           with_reducible refine (fullerref10_Arity.calls k2 ((rd_T25 l0 x3_2).f0) t298 _ A10.out).mono ?_
           rintro e w' ⟨rfl, ⟨nd, rfl⟩⟩
           refine ⟨_, rfl, ?_⟩
           refine hK.out _ _ ⟨((HB.out.cell (World.block_lt_of_cell? w _ hw297_0)).trans hw297_0), ((HB.out.cell (World.block_lt_of_cell? w _ hw297_1)).trans hw297_1), ((HB.out.cell (World.block_lt_of_cell? w _ hw297_2)).trans hw297_2), ((HB.out.cell (World.block_lt_of_cell? w _ hw299_0)).trans hw299_0), ((HB.out.cell (World.block_lt_of_cell? w _ hw299_1)).trans hw299_1), ((HB.out.cell (World.block_lt_of_cell? w _ hw299_2)).trans hw299_2), ((HB.out.cell (World.block_lt_of_cell? w _ hw300_0)).trans hw300_0), ((HB.out.cell (World.block_lt_of_cell? w _ hw300_1)).trans hw300_1), ((HB.out.cell (World.block_lt_of_cell? w _ hw300_2)).trans hw300_2)⟩ (fun hHeld => ?_)
           clear hK K
           refine norm_ (a' := ?_) ?_ ?_
           rotate_left
           ·show Act.put _ (some 32) _ = _
            simp only [Act.put, sA_, sB_, sC_, i64_w, i32_w]
            rfl
           refine pu_ 6 (some 33) L31_7 HT_ ?_
           refine pu_ 7 (some 34) L31_8 HT_ ?_
           refine pu_ 8 (some 35) L31_14 HT_ ?_
           refine pu_ 9 (some 36) L31_15 HT_ ?_
           refine pu_ 10 (some 37) L31_16 HT_ ?_
           refine pu_ 11 (some 38) L31_17 HT_ ?_
           refine pu_ 14 (some 41) L31_18 HT_ ?_
           refine pu_ 15 (some 42) L31_19 HT_ ?_
           refine pu_ 16 (some 43) L31_20 HT_ ?_
           refine pu_ 17 (some 44) L31_21 HT_ ?_
           refine ta_ 12 (some 39) L31_22 HT_ HW_ hHeld ?_ (hy := by rintro w' ⟨s0, s1, s2, s3, s4, s5, s6, s7, s8⟩; go_simp; with_reducible rfl)
           refine pu_ 13 (some 40) L31_23 HT_ ?_
           refine ta_ 18 (some 45) L31_24 HT_ HW_ hHeld ?_ (hy := by rintro w' ⟨s0, s1, s2, s3, s4, s5, s6, s7, s8⟩; go_simp; with_reducible rfl)
           refine one_ (i := 19) (N := some 46) L31_25 rfl rfl (one_of HT_.out (by kernel_rfl)) (by decide) (fun K hK => ?_)
           refine goes_ Try.func25 (by kernel_rfl) rfl #[.int .i64 ((rd_T25 l0 x3_2).f0)] (by rfl) rfl rfl (by (try simp only [List.map_toArray, List.map_cons, List.map_nil]); first | done | rfl | (simp only [List.length_drop, List.length_take]; rfl)) ?_
           with_reducible refine (fullerref10_Arity.calls k2 ((rd_T25 l0 x3_2).f0) t301 _ A13.out).mono ?_
           rintro e w' ⟨rfl, ⟨nd, rfl⟩⟩
           refine ⟨_, rfl, ?_⟩
           refine hK.out _ _ ⟨((HB.out.cell (World.block_lt_of_cell? w _ hw297_0)).trans hw297_0), ((HB.out.cell (World.block_lt_of_cell? w _ hw297_1)).trans hw297_1), ((HB.out.cell (World.block_lt_of_cell? w _ hw297_2)).trans hw297_2), ((HB.out.cell (World.block_lt_of_cell? w _ hw299_0)).trans hw299_0), ((HB.out.cell (World.block_lt_of_cell? w _ hw299_1)).trans hw299_1), ((HB.out.cell (World.block_lt_of_cell? w _ hw299_2)).trans hw299_2), ((HB.out.cell (World.block_lt_of_cell? w _ hw300_0)).trans hw300_0), ((HB.out.cell (World.block_lt_of_cell? w _ hw300_1)).trans hw300_1), ((HB.out.cell (World.block_lt_of_cell? w _ hw300_2)).trans hw300_2)⟩ (fun hHeld => ?_)
           clear hK K
           refine norm_ (a' := ?_) ?_ ?_
           rotate_left
           ·show Act.put _ (some 46) _ = _
            simp only [Act.put, sA_, sB_, sC_, i64_w, i32_w]
            rfl
           refine pu_ 20 (some 47) L31_9 HT_ ?_
           refine pu_ 21 (some 48) L31_10 HT_ ?_
           refine pu_ 22 (some 49) L31_11 HT_ ?_
           refine skips_ (fuel := 1) (m := 3) HT_.out (fun _ _ _ _ _ h => h) [(23, 50), (24, 51)] L31_12 rfl (by kernel_rfl) (by kernel_rfl) (a' := ?_) ?_ ?_
           rotate_left
           ·simp only [putU, Act.put, sA_, sB_, sC_]
            rfl
           refine pu_ 25 (some 52) L31_13 HT_ ?_
           refine done_ (done_of HT_.out (by kernel_rfl)) ?_
           try go_wp2
           go_meet
           case rel => exact ⟨_, (true), (by first | rfl | (simp; done) | (simp [*]; done)), H', ⟨by have := HJ1.out; have := HK2.out; first | omega | exact Nat.le_refl _⟩, ⟨bq0_ HB.out⟩⟩
        case rest =>
         clear HC8
         try clear c1
         try clear c2
         try clear p2
         try clear q2
         try clear hx2
         try clear c3
         try clear p3
         try clear q3
         try clear hx3
         try clear c14
         try clear c14b0
         try clear c14b1
         try clear hx297_0
         try clear hx297_1
         try clear hx297_2
         try clear hx299_0
         try clear hx299_1
         try clear hx299_2
         try clear hx300_0
         try clear hx300_1
         try clear hx300_2
         try clear p297
         try clear p299
         try clear p300
         try clear q297
         try clear q299
         try clear q300
         obtain ⟨kq, x52_7, rfl, HA, HJ7, HB⟩ := hcut
         cases kq with
         | zero => exact absurd HA.out (by simp [fullerref10_Check.j2])
         | succ kj7 =>
          have H := HA.out
          clear HA
          simp only [fullerref10_Check.j2] at H
          by_cases c17 : x52_7 = true
          ·subst c17
           have H1 : (some false) = some r := by rw [if_pos rfl] at H; exact H
           clear H
           have H := H1
           clear H1
           obtain rfl := Option.some.inj H
           go_wp2
           go_ret
           exact ⟨by first | rfl | (simp <;> rfl) | (simp [*] <;> rfl), bq0_ HB.out⟩
          ·replace c17 := Bool.eq_false_iff.mpr c17
           subst c17
           have H1 : (fullerref10_Check.l1 kj7 l0 x3_2 0) = some r := by rw [if_neg (show ¬ (false = true) by decide)] at H; exact H
           clear H
           have H := H1
           clear H1
           have H' := Aside0.mk H
           clear H
           go_wp2
           go_loopg [5] kj7 (fun kq v5 w' => ∃ (x5_4 : Int), v5 = .int .i64 x5_4 ∧ Aside0 (fullerref10_Check.l1 kq l0 x3_2 x5_4 = some r) ∧ Aside0 (kq ≤ kj7) ∧ Aside0 (Below w.heap.size w w'))
           case atStart => exact ⟨(0), (by first | rfl | (simp; done) | (simp [*]; done)), H', ⟨Nat.le_refl _⟩, ⟨bq0_ HB.out⟩⟩
           case round =>
            clear H'
            try clear c1
            try clear c2
            try clear p2
            try clear q2
            try clear hx2
            try clear c3
            try clear p3
            try clear q3
            try clear hx3
            try clear c14
            try clear c14b0
            try clear c14b1
            try clear c17
            try clear hx297_0
            try clear hx297_1
            try clear hx297_2
            try clear hx299_0
            try clear hx299_1
            try clear hx299_2
            try clear hx300_0
            try clear hx300_1
            try clear hx300_2
            try clear p2
            try clear p297
            try clear p299
            try clear p3
            try clear p300
            try clear q2
            try clear q297
            try clear q299
            try clear q3
            try clear q300
            obtain ⟨x5_4, rfl, HA, HK4, HB⟩ := hrel
            cases gk with
            | zero => exact absurd HA.out (by simp [fullerref10_Check.l1])
            | succ k4 =>
             have H := HA.out
             clear HA
             simp only [fullerref10_Check.l1] at H
             by_cases c18 : 0 ≤ x3_2
             ·rw [if_pos c18] at H
              have c18b0 : decide (0 ≤ x3_2) = true := decide_eq_true c18
              clear c18
              by_cases c19 : x3_2 < (l0.length : Int)
              ·rw [if_pos c19] at H
               have c19b0 : decide (x3_2 < (l0.length : Int)) = true := decide_eq_true c19
               clear c19
               by_cases c20 : x5_4 < (((rd_T25 l0 x3_2).f1).length : Int)
               ·rw [if_pos c20] at H
                have c20b0 : decide (x5_4 < (((rd_T25 l0 x3_2).f1).length : Int)) = true := decide_eq_true c20
                clear c20
                by_cases c21 : 0 ≤ x5_4
                ·rw [if_pos c21] at H
                 have c21b0 : decide (0 ≤ x5_4) = true := decide_eq_true c21
                 clear c21
                 by_cases c22 : (rd ((rd_T25 l0 x3_2).f1) x5_4) < 0
                 ·rw [if_pos c22] at H
                  have c22b0 : decide ((rd ((rd_T25 l0 x3_2).f1) x5_4) < 0) = true := decide_eq_true c22
                  clear c22
                  obtain rfl := Option.some.inj H
                  have p302 : 0 ≤ (x3_2 : Int) := od_
                  have q302 : x3_2 < (l0.length : Int) := od_
                  obtain ⟨ad302, A302_1, c302_1, A302_2, c302_2, e302, hx302_0, hx302_1, hx302_2, hl302_1, hi302_1, hl302_2, hi302_2⟩ := at_T25 HR0.out x3_2 p302 q302
                  obtain rfl : ad295 = ad302 := (by injection e302)
                  replace hx302_0 := hb_ HB hx302_0
                  replace hx302_1 := hb_ HB hx302_1
                  replace hx302_2 := hb_ HB hx302_2
                  have HR302_1 := Aside0.mk hi302_1
                  have HC302_1 := Aside0.mk hl302_1
                  clear hi302_1 hl302_1
                  have HR302_2 := Aside0.mk hi302_2
                  have HC302_2 := Aside0.mk hl302_2
                  clear hi302_2 hl302_2
                  replace p302 := eq_true p302
                  replace q302 := eq_true q302
                  have p303 : 0 ≤ (x3_2 : Int) := od_
                  have q303 : x3_2 < (l0.length : Int) := od_
                  obtain ⟨ad303, A303_1, c303_1, A303_2, c303_2, e303, hx303_0, hx303_1, hx303_2, hl303_1, hi303_1, hl303_2, hi303_2⟩ := at_T25 HR0.out x3_2 p303 q303
                  obtain rfl : ad295 = ad303 := (by injection e303)
                  replace hx303_0 := hb_ HB hx303_0
                  replace hx303_1 := hb_ HB hx303_1
                  replace hx303_2 := hb_ HB hx303_2
                  have HR303_1 := Aside0.mk hi303_1
                  have HC303_1 := Aside0.mk hl303_1
                  clear hi303_1 hl303_1
                  have HR303_2 := Aside0.mk hi303_2
                  have HC303_2 := Aside0.mk hl303_2
                  clear hi303_2 hl303_2
                  replace p303 := eq_true p303
                  replace q303 := eq_true q303
                  have ea_ := Option.some.inj (hx302_1.symm.trans hx303_1)
                  injection ea_ with ea_ en_ ec_
                  subst ea_
                  subst ec_
                  clear en_
                  have ea_ := Option.some.inj (hx302_2.symm.trans hx303_2)
                  injection ea_ with ea_ en_ ec_
                  subst ea_
                  subst ec_
                  clear en_
                  have p304 : 0 ≤ (x5_4 : Int) := od_
                  have q304 : x5_4 < (((rd_T25 l0 x3_2).f1).length : Int) := od_
                  obtain ⟨ad304, e304, hx304_0⟩ := Kd.at_int HR303_1.out x5_4 p304 q304
                  cases e304
                  replace hx304_0 := hb_ HB hx304_0
                  replace p304 := eq_true p304
                  replace q304 := eq_true q304
                  go_wp2
                  go_ret
                  exact ⟨by first | rfl | (simp <;> rfl) | (simp [*] <;> rfl), bq0_ HB.out⟩
                 ·rw [if_neg c22] at H
                  have c22b0 : decide ((rd ((rd_T25 l0 x3_2).f1) x5_4) < 0) = false := decide_eq_false c22
                  clear c22
                  by_cases c23 : (rd ((rd_T25 l0 x3_2).f1) x5_4) ≥ x3_2
                  ·rw [if_pos c23] at H
                   have c23b0 : decide (x3_2 ≤ (rd ((rd_T25 l0 x3_2).f1) x5_4)) = true := decide_eq_true c23
                   clear c23
                   obtain rfl := Option.some.inj H
                   have p302 : 0 ≤ (x3_2 : Int) := od_
                   have q302 : x3_2 < (l0.length : Int) := od_
                   obtain ⟨ad302, A302_1, c302_1, A302_2, c302_2, e302, hx302_0, hx302_1, hx302_2, hl302_1, hi302_1, hl302_2, hi302_2⟩ := at_T25 HR0.out x3_2 p302 q302
                   obtain rfl : ad295 = ad302 := (by injection e302)
                   replace hx302_0 := hb_ HB hx302_0
                   replace hx302_1 := hb_ HB hx302_1
                   replace hx302_2 := hb_ HB hx302_2
                   have HR302_1 := Aside0.mk hi302_1
                   have HC302_1 := Aside0.mk hl302_1
                   clear hi302_1 hl302_1
                   have HR302_2 := Aside0.mk hi302_2
                   have HC302_2 := Aside0.mk hl302_2
                   clear hi302_2 hl302_2
                   replace p302 := eq_true p302
                   replace q302 := eq_true q302
                   have p303 : 0 ≤ (x3_2 : Int) := od_
                   have q303 : x3_2 < (l0.length : Int) := od_
                   obtain ⟨ad303, A303_1, c303_1, A303_2, c303_2, e303, hx303_0, hx303_1, hx303_2, hl303_1, hi303_1, hl303_2, hi303_2⟩ := at_T25 HR0.out x3_2 p303 q303
                   obtain rfl : ad295 = ad303 := (by injection e303)
                   replace hx303_0 := hb_ HB hx303_0
                   replace hx303_1 := hb_ HB hx303_1
                   replace hx303_2 := hb_ HB hx303_2
                   have HR303_1 := Aside0.mk hi303_1
                   have HC303_1 := Aside0.mk hl303_1
                   clear hi303_1 hl303_1
                   have HR303_2 := Aside0.mk hi303_2
                   have HC303_2 := Aside0.mk hl303_2
                   clear hi303_2 hl303_2
                   replace p303 := eq_true p303
                   replace q303 := eq_true q303
                   have ea_ := Option.some.inj (hx302_1.symm.trans hx303_1)
                   injection ea_ with ea_ en_ ec_
                   subst ea_
                   subst ec_
                   clear en_
                   have ea_ := Option.some.inj (hx302_2.symm.trans hx303_2)
                   injection ea_ with ea_ en_ ec_
                   subst ea_
                   subst ec_
                   clear en_
                   have p304 : 0 ≤ (x5_4 : Int) := od_
                   have q304 : x5_4 < (((rd_T25 l0 x3_2).f1).length : Int) := od_
                   obtain ⟨ad304, e304, hx304_0⟩ := Kd.at_int HR303_1.out x5_4 p304 q304
                   cases e304
                   replace hx304_0 := hb_ HB hx304_0
                   replace p304 := eq_true p304
                   replace q304 := eq_true q304
                   have p305 : 0 ≤ (x3_2 : Int) := od_
                   have q305 : x3_2 < (l0.length : Int) := od_
                   obtain ⟨ad305, A305_1, c305_1, A305_2, c305_2, e305, hx305_0, hx305_1, hx305_2, hl305_1, hi305_1, hl305_2, hi305_2⟩ := at_T25 HR0.out x3_2 p305 q305
                   obtain rfl : ad295 = ad305 := (by injection e305)
                   replace hx305_0 := hb_ HB hx305_0
                   replace hx305_1 := hb_ HB hx305_1
                   replace hx305_2 := hb_ HB hx305_2
                   have HR305_1 := Aside0.mk hi305_1
                   have HC305_1 := Aside0.mk hl305_1
                   clear hi305_1 hl305_1
                   have HR305_2 := Aside0.mk hi305_2
                   have HC305_2 := Aside0.mk hl305_2
                   clear hi305_2 hl305_2
                   replace p305 := eq_true p305
                   replace q305 := eq_true q305
                   have ea_ := Option.some.inj (hx302_1.symm.trans hx305_1)
                   injection ea_ with ea_ en_ ec_
                   subst ea_
                   subst ec_
                   clear en_
                   have ea_ := Option.some.inj (hx302_2.symm.trans hx305_2)
                   injection ea_ with ea_ en_ ec_
                   subst ea_
                   subst ec_
                   clear en_
                   have p306 : 0 ≤ (x5_4 : Int) := od_
                   have q306 : x5_4 < (((rd_T25 l0 x3_2).f1).length : Int) := od_
                   obtain ⟨ad306, e306, hx306_0⟩ := Kd.at_int HR305_1.out x5_4 p306 q306
                   cases e306
                   replace hx306_0 := hb_ HB hx306_0
                   replace p306 := eq_true p306
                   replace q306 := eq_true q306
                   go_wp2
                   go_ret
                   exact ⟨by first | rfl | (simp <;> rfl) | (simp [*] <;> rfl), bq0_ HB.out⟩
                  ·rw [if_neg c23] at H
                   have c23b0 : decide (x3_2 ≤ (rd ((rd_T25 l0 x3_2).f1) x5_4)) = false := decide_eq_false c23
                   clear c23
                   have H' := Aside0.mk H
                   clear H
                   have p302 : 0 ≤ (x3_2 : Int) := od_
                   have q302 : x3_2 < (l0.length : Int) := od_
                   obtain ⟨ad302, A302_1, c302_1, A302_2, c302_2, e302, hx302_0, hx302_1, hx302_2, hl302_1, hi302_1, hl302_2, hi302_2⟩ := at_T25 HR0.out x3_2 p302 q302
                   obtain rfl : ad295 = ad302 := (by injection e302)
                   replace hx302_0 := hb_ HB hx302_0
                   replace hx302_1 := hb_ HB hx302_1
                   replace hx302_2 := hb_ HB hx302_2
                   have HR302_1 := Aside0.mk hi302_1
                   have HC302_1 := Aside0.mk hl302_1
                   clear hi302_1 hl302_1
                   have HR302_2 := Aside0.mk hi302_2
                   have HC302_2 := Aside0.mk hl302_2
                   clear hi302_2 hl302_2
                   replace p302 := eq_true p302
                   replace q302 := eq_true q302
                   have p303 : 0 ≤ (x3_2 : Int) := od_
                   have q303 : x3_2 < (l0.length : Int) := od_
                   obtain ⟨ad303, A303_1, c303_1, A303_2, c303_2, e303, hx303_0, hx303_1, hx303_2, hl303_1, hi303_1, hl303_2, hi303_2⟩ := at_T25 HR0.out x3_2 p303 q303
                   obtain rfl : ad295 = ad303 := (by injection e303)
                   replace hx303_0 := hb_ HB hx303_0
                   replace hx303_1 := hb_ HB hx303_1
                   replace hx303_2 := hb_ HB hx303_2
                   have HR303_1 := Aside0.mk hi303_1
                   have HC303_1 := Aside0.mk hl303_1
                   clear hi303_1 hl303_1
                   have HR303_2 := Aside0.mk hi303_2
                   have HC303_2 := Aside0.mk hl303_2
                   clear hi303_2 hl303_2
                   replace p303 := eq_true p303
                   replace q303 := eq_true q303
                   have ea_ := Option.some.inj (hx302_1.symm.trans hx303_1)
                   injection ea_ with ea_ en_ ec_
                   subst ea_
                   subst ec_
                   clear en_
                   have ea_ := Option.some.inj (hx302_2.symm.trans hx303_2)
                   injection ea_ with ea_ en_ ec_
                   subst ea_
                   subst ec_
                   clear en_
                   have p304 : 0 ≤ (x5_4 : Int) := od_
                   have q304 : x5_4 < (((rd_T25 l0 x3_2).f1).length : Int) := od_
                   obtain ⟨ad304, e304, hx304_0⟩ := Kd.at_int HR303_1.out x5_4 p304 q304
                   cases e304
                   replace hx304_0 := hb_ HB hx304_0
                   replace p304 := eq_true p304
                   replace q304 := eq_true q304
                   have p305 : 0 ≤ (x3_2 : Int) := od_
                   have q305 : x3_2 < (l0.length : Int) := od_
                   obtain ⟨ad305, A305_1, c305_1, A305_2, c305_2, e305, hx305_0, hx305_1, hx305_2, hl305_1, hi305_1, hl305_2, hi305_2⟩ := at_T25 HR0.out x3_2 p305 q305
                   obtain rfl : ad295 = ad305 := (by injection e305)
                   replace hx305_0 := hb_ HB hx305_0
                   replace hx305_1 := hb_ HB hx305_1
                   replace hx305_2 := hb_ HB hx305_2
                   have HR305_1 := Aside0.mk hi305_1
                   have HC305_1 := Aside0.mk hl305_1
                   clear hi305_1 hl305_1
                   have HR305_2 := Aside0.mk hi305_2
                   have HC305_2 := Aside0.mk hl305_2
                   clear hi305_2 hl305_2
                   replace p305 := eq_true p305
                   replace q305 := eq_true q305
                   have ea_ := Option.some.inj (hx302_1.symm.trans hx305_1)
                   injection ea_ with ea_ en_ ec_
                   subst ea_
                   subst ec_
                   clear en_
                   have ea_ := Option.some.inj (hx302_2.symm.trans hx305_2)
                   injection ea_ with ea_ en_ ec_
                   subst ea_
                   subst ec_
                   clear en_
                   have p306 : 0 ≤ (x5_4 : Int) := od_
                   have q306 : x5_4 < (((rd_T25 l0 x3_2).f1).length : Int) := od_
                   obtain ⟨ad306, e306, hx306_0⟩ := Kd.at_int HR305_1.out x5_4 p306 q306
                   cases e306
                   replace hx306_0 := hb_ HB hx306_0
                   replace p306 := eq_true p306
                   replace q306 := eq_true q306
                   go_wp2
                   go_roundg k4
                   case measure => have := HJ1.out; have := HK2.out; have := HJ7.out; have := HK4.out; omega
                   case rel => exact ⟨(wrap64 (x5_4 + 1)), (by first | rfl | (simp; done) | (simp [*]; done)), H', ⟨by have := HJ1.out; have := HK2.out; have := HJ7.out; have := HK4.out; omega⟩, ⟨bq0_ HB.out⟩⟩
                ·rw [if_neg c21] at H
                 exact absurd H (by simp)
               ·rw [if_neg c20] at H
                have c20b0 : decide (x5_4 < (((rd_T25 l0 x3_2).f1).length : Int)) = false := decide_eq_false c20
                clear c20
                have H' := Aside0.mk H
                clear H
                have p302 : 0 ≤ (x3_2 : Int) := od_
                have q302 : x3_2 < (l0.length : Int) := od_
                obtain ⟨ad302, A302_1, c302_1, A302_2, c302_2, e302, hx302_0, hx302_1, hx302_2, hl302_1, hi302_1, hl302_2, hi302_2⟩ := at_T25 HR0.out x3_2 p302 q302
                obtain rfl : ad295 = ad302 := (by injection e302)
                replace hx302_0 := hb_ HB hx302_0
                replace hx302_1 := hb_ HB hx302_1
                replace hx302_2 := hb_ HB hx302_2
                have HR302_1 := Aside0.mk hi302_1
                have HC302_1 := Aside0.mk hl302_1
                clear hi302_1 hl302_1
                have HR302_2 := Aside0.mk hi302_2
                have HC302_2 := Aside0.mk hl302_2
                clear hi302_2 hl302_2
                replace p302 := eq_true p302
                replace q302 := eq_true q302
                go_wp2
                go_loopg [6] k4 (fun kq v6 w' => ∃ (x6_5 : Int), v6 = .int .i64 x6_5 ∧ Aside0 (fullerref10_Check.l2 kq l0 x3_2 x6_5 = some r) ∧ Aside0 (kq ≤ k4) ∧ Aside0 (Below w.heap.size w w'))
                case atStart => exact ⟨(0), (by first | rfl | (simp; done) | (simp [*]; done)), H', ⟨Nat.le_refl _⟩, ⟨bq0_ HB.out⟩⟩
                case round =>
                 clear H'
                 try clear c1
                 try clear c2
                 try clear p2
                 try clear q2
                 try clear hx2
                 try clear c3
                 try clear p3
                 try clear q3
                 try clear hx3
                 try clear p6
                 try clear c14
                 try clear c14b0
                 try clear c14b1
                 try clear c17
                 try clear c18
                 try clear c18b0
                 try clear c19
                 try clear c19b0
                 try clear c20
                 try clear c20b0
                 try clear c21
                 try clear c21b0
                 try clear c22
                 try clear c22b0
                 try clear c23
                 try clear c23b0
                 try clear hx297_0
                 try clear hx297_1
                 try clear hx297_2
                 try clear hx299_0
                 try clear hx299_1
                 try clear hx299_2
                 try clear hx300_0
                 try clear hx300_1
                 try clear hx300_2
                 try clear hx302_0
                 try clear hx302_1
                 try clear hx302_2
                 try clear hx303_0
                 try clear hx303_1
                 try clear hx303_2
                 try clear hx304_0
                 try clear hx305_0
                 try clear hx305_1
                 try clear hx305_2
                 try clear hx306_0
                 try clear p2
                 try clear p297
                 try clear p299
                 try clear p3
                 try clear p300
                 try clear p302
                 try clear p303
                 try clear p304
                 try clear p305
                 try clear p306
                 try clear q2
                 try clear q297
                 try clear q299
                 try clear q3
                 try clear q300
                 try clear q302
                 try clear q303
                 try clear q304
                 try clear q305
                 try clear q306
                 obtain ⟨x6_5, rfl, HA, HK5, HB⟩ := hrel
                 cases gk with
                 | zero => exact absurd HA.out (by simp [fullerref10_Check.l2])
                 | succ k5 =>
                  have H := HA.out
                  clear HA
                  simp only [fullerref10_Check.l2] at H
                  by_cases c24 : x6_5 < x3_2
                  ·rw [if_pos c24] at H
                   have c24b0 : decide (x6_5 < x3_2) = true := decide_eq_true c24
                   clear c24
                   by_cases c25 : 0 ≤ x6_5
                   ·rw [if_pos c25] at H
                    have c25b0 : decide (0 ≤ x6_5) = true := decide_eq_true c25
                    clear c25
                    by_cases c26 : x6_5 < (l0.length : Int)
                    ·rw [if_pos c26] at H
                     have c26b0 : decide (x6_5 < (l0.length : Int)) = true := decide_eq_true c26
                     clear c26
                     by_cases c27 : 0 ≤ x3_2
                     ·rw [if_pos c27] at H
                      have c27b0 : decide (0 ≤ x3_2) = true := decide_eq_true c27
                      clear c27
                      by_cases c28 : x3_2 < (l0.length : Int)
                      ·rw [if_pos c28] at H
                       have c28b0 : decide (x3_2 < (l0.length : Int)) = true := decide_eq_true c28
                       clear c28
                       replace H := Option.bind_eq_some_iff.mp H
                       obtain ⟨t309, A290, H⟩ := H
                       replace H : (if t309 = true then (fullerref10_Check.l2 k5 l0 x3_2 (wrap64 (x6_5 + 1))) else (some false)) = some r := H
                       have A29 := Aside0.mk A290
                       clear A290
                       by_cases c30 : t309 = true
                       ·subst c30
                        have H1 : (fullerref10_Check.l2 k5 l0 x3_2 (wrap64 (x6_5 + 1))) = some r := by rw [if_pos rfl] at H; exact H
                        clear H
                        have H := H1
                        clear H1
                        have H' := Aside0.mk H
                        clear H
                        try go_wp2
                        replace HB := Aside0.mk (below_drew1 HB.out)
                        have p307 : 0 ≤ (x6_5 : Int) := od_
                        have q307 : x6_5 < (l0.length : Int) := od_
                        obtain ⟨ad307, A307_1, c307_1, A307_2, c307_2, e307, hx307_0, hx307_1, hx307_2, hl307_1, hi307_1, hl307_2, hi307_2⟩ := at_T25 HR0.out x6_5 p307 q307
                        have hw307_2 := hx307_2
                        have hw307_1 := hx307_1
                        have hw307_0 := hx307_0
                        obtain rfl : ad295 = ad307 := (by injection e307)
                        replace hx307_0 := hb_ HB hx307_0
                        replace hx307_1 := hb_ HB hx307_1
                        replace hx307_2 := hb_ HB hx307_2
                        have HR307_1 := Aside0.mk hi307_1
                        have HC307_1 := Aside0.mk hl307_1
                        clear hi307_1 hl307_1
                        have HR307_2 := Aside0.mk hi307_2
                        have HC307_2 := Aside0.mk hl307_2
                        clear hi307_2 hl307_2
                        replace p307 := eq_true p307
                        replace q307 := eq_true q307
                        have p308 : 0 ≤ (x3_2 : Int) := od_
                        have q308 : x3_2 < (l0.length : Int) := od_
                        obtain ⟨ad308, A308_1, c308_1, A308_2, c308_2, e308, hx308_0, hx308_1, hx308_2, hl308_1, hi308_1, hl308_2, hi308_2⟩ := at_T25 HR0.out x3_2 p308 q308
                        have hw308_2 := hx308_2
                        have hw308_1 := hx308_1
                        have hw308_0 := hx308_0
                        obtain rfl : ad295 = ad308 := (by injection e308)
                        replace hx308_0 := hb_ HB hx308_0
                        replace hx308_1 := hb_ HB hx308_1
                        replace hx308_2 := hb_ HB hx308_2
                        have HR308_1 := Aside0.mk hi308_1
                        have HC308_1 := Aside0.mk hl308_1
                        clear hi308_1 hl308_1
                        have HR308_2 := Aside0.mk hi308_2
                        have HC308_2 := Aside0.mk hl308_2
                        clear hi308_2 hl308_2
                        replace p308 := eq_true p308
                        replace q308 := eq_true q308
                        refine start_ (n := 10) (S := fun w' => w'.cell? (ad295.add ((x6_5).toNat * 3)) = some (.int .i64 ((rd_T25 l0 x6_5).f0)) ∧ w'.cell? ⟨(ad295.add ((x6_5).toNat * 3)).block, (ad295.add ((x6_5).toNat * 3)).off + 1, none⟩ = some (.slice A307_1 ((rd_T25 l0 x6_5).f1).length c307_1) ∧ w'.cell? ⟨(ad295.add ((x6_5).toNat * 3)).block, (ad295.add ((x6_5).toNat * 3)).off + 2, none⟩ = some (.slice A307_2 ((rd_T25 l0 x6_5).f2).length c307_2) ∧ w'.cell? (ad295.add ((x3_2).toNat * 3)) = some (.int .i64 ((rd_T25 l0 x3_2).f0)) ∧ w'.cell? ⟨(ad295.add ((x3_2).toNat * 3)).block, (ad295.add ((x3_2).toNat * 3)).off + 1, none⟩ = some (.slice A308_1 ((rd_T25 l0 x3_2).f1).length c308_1) ∧ w'.cell? ⟨(ad295.add ((x3_2).toNat * 3)).block, (ad295.add ((x3_2).toNat * 3)).off + 2, none⟩ = some (.slice A308_2 ((rd_T25 l0 x3_2).f2).length c308_2)) (ds := []) L31_27 (by kernel_rfl) rfl rfl ⟨((HB.out.cell (World.block_lt_of_cell? w _ hw307_0)).trans hw307_0), ((HB.out.cell (World.block_lt_of_cell? w _ hw307_1)).trans hw307_1), ((HB.out.cell (World.block_lt_of_cell? w _ hw307_2)).trans hw307_2), ((HB.out.cell (World.block_lt_of_cell? w _ hw308_0)).trans hw308_0), ((HB.out.cell (World.block_lt_of_cell? w _ hw308_1)).trans hw308_1), ((HB.out.cell (World.block_lt_of_cell? w _ hw308_2)).trans hw308_2)⟩ (fun hHeld => ?_); refine with_tabW fullerref10_Check.tab17 fullerref10_Check.bits17 (fun HT_ HW_ => ?_)
                        generalize wr.drew = w31 at HB HR307_1 HR307_2 HR308_1 HR308_2 hx307_0 hx307_1 hx307_2 hx308_0 hx308_1 hx308_2 hHeld ⊢
                        refine pu_ 0 (some 89) L31_28 HT_ ?_
                        refine pu_ 1 (some 90) L31_29 HT_ ?_
                        refine pu_ 2 (some 91) L31_30 HT_ ?_
                        refine pu_ 4 (some 93) L31_31 HT_ ?_
                        refine pu_ 5 (some 94) L31_32 HT_ ?_
                        refine pu_ 6 (some 95) L31_33 HT_ ?_
                        refine ta_ 3 (some 92) L31_34 HT_ HW_ hHeld ?_ (hy := by rintro w' ⟨s0, s1, s2, s3, s4, s5⟩; go_simp; with_reducible rfl)
                        refine ta_ 7 (some 96) L31_35 HT_ HW_ hHeld ?_ (hy := by rintro w' ⟨s0, s1, s2, s3, s4, s5⟩; go_simp; with_reducible rfl)
                        refine one_ (i := 8) (N := some 97) L31_36 rfl rfl (one_of HT_.out (by kernel_rfl)) (by decide) (fun K hK => ?_)
                        refine goes_ Try.func59 (by kernel_rfl) rfl #[.agg #[.int .i64 ((rd_T25 l0 x6_5).f0), .slice A307_1 ((rd_T25 l0 x6_5).f1).length c307_1, .slice A307_2 ((rd_T25 l0 x6_5).f2).length c307_2], .agg #[.int .i64 ((rd_T25 l0 x3_2).f0), .slice A308_1 ((rd_T25 l0 x3_2).f1).length c308_1, .slice A308_2 ((rd_T25 l0 x3_2).f2).length c308_2]] (by rfl) rfl rfl (by (try simp only [List.map_toArray, List.map_cons, List.map_nil]); first | done | rfl | (simp only [List.length_drop, List.length_take]; rfl)) ?_
                        with_reducible refine (fullerref10_like.calls k5 ((rd_T25 l0 x6_5).f0) _ _ ((rd_T25 l0 x6_5).f1) _ _ ((rd_T25 l0 x6_5).f2) ((rd_T25 l0 x3_2).f0) _ _ ((rd_T25 l0 x3_2).f1) _ _ ((rd_T25 l0 x3_2).f2) true _ ?side1 ?side2 ?side3 ?side4 ?side5 ?side6 ?side7 ?side8 A29.out).mono ?_
                        (case side1 => exact mvC_ ((Kd.C_below HR307_1.out HB.out)))
                        (case side2 => exact HC307_1.out)
                        (case side3 => exact mvC_ ((Kd.C_below HR307_2.out HB.out)))
                        (case side4 => exact HC307_2.out)
                        (case side5 => exact mvC_ ((Kd.C_below HR308_1.out HB.out)))
                        (case side6 => exact HC308_1.out)
                        (case side7 => exact mvC_ ((Kd.C_below HR308_2.out HB.out)))
                        (case side8 => exact HC308_2.out)
                        rintro e w32 ⟨rfl, hb⟩
                        refine ⟨_, rfl, ?_⟩
                        replace HB := Aside0.mk (below_step (bq0_ HB.out) hb)
                        (try clear hb)
                        (try clear hb2)
                        (try clear hk)
                        (try clear hi)
                        refine hK.out _ _ ⟨((HB.out.cell (World.block_lt_of_cell? w _ hw307_0)).trans hw307_0), ((HB.out.cell (World.block_lt_of_cell? w _ hw307_1)).trans hw307_1), ((HB.out.cell (World.block_lt_of_cell? w _ hw307_2)).trans hw307_2), ((HB.out.cell (World.block_lt_of_cell? w _ hw308_0)).trans hw308_0), ((HB.out.cell (World.block_lt_of_cell? w _ hw308_1)).trans hw308_1), ((HB.out.cell (World.block_lt_of_cell? w _ hw308_2)).trans hw308_2)⟩ (fun hHeld => ?_)
                        clear hK K
                        refine norm_ (a' := ?_) ?_ ?_
                        rotate_left
                        ·show Act.put _ (some 97) _ = _
                         simp only [Act.put, sA_, sB_, sC_, i64_w, i32_w]
                         rfl
                        refine pu_ 9 (some 7) L31_37 HT_ ?_
                        refine done_ (done_of HT_.out (by kernel_rfl)) ?_
                        try go_wp2
                        go_roundg k5
                        case measure => have := HJ1.out; have := HK2.out; have := HJ7.out; have := HK4.out; have := HK5.out; omega
                        case rel => exact ⟨(wrap64 (x6_5 + 1)), (by first | rfl | (simp; done) | (simp [*]; done)), H', ⟨by have := HJ1.out; have := HK2.out; have := HJ7.out; have := HK4.out; have := HK5.out; omega⟩, ⟨bq0_ HB.out⟩⟩
                       ·replace c30 := Bool.eq_false_iff.mpr c30
                        subst c30
                        have H1 : (some false) = some r := by rw [if_neg (show ¬ (false = true) by decide)] at H; exact H
                        clear H
                        have H := H1
                        clear H1
                        obtain rfl := Option.some.inj H
                        try go_wp2
                        replace HB := Aside0.mk (below_drew1 HB.out)
                        have p307 : 0 ≤ (x6_5 : Int) := od_
                        have q307 : x6_5 < (l0.length : Int) := od_
                        obtain ⟨ad307, A307_1, c307_1, A307_2, c307_2, e307, hx307_0, hx307_1, hx307_2, hl307_1, hi307_1, hl307_2, hi307_2⟩ := at_T25 HR0.out x6_5 p307 q307
                        have hw307_2 := hx307_2
                        have hw307_1 := hx307_1
                        have hw307_0 := hx307_0
                        obtain rfl : ad295 = ad307 := (by injection e307)
                        replace hx307_0 := hb_ HB hx307_0
                        replace hx307_1 := hb_ HB hx307_1
                        replace hx307_2 := hb_ HB hx307_2
                        have HR307_1 := Aside0.mk hi307_1
                        have HC307_1 := Aside0.mk hl307_1
                        clear hi307_1 hl307_1
                        have HR307_2 := Aside0.mk hi307_2
                        have HC307_2 := Aside0.mk hl307_2
                        clear hi307_2 hl307_2
                        replace p307 := eq_true p307
                        replace q307 := eq_true q307
                        have p308 : 0 ≤ (x3_2 : Int) := od_
                        have q308 : x3_2 < (l0.length : Int) := od_
                        obtain ⟨ad308, A308_1, c308_1, A308_2, c308_2, e308, hx308_0, hx308_1, hx308_2, hl308_1, hi308_1, hl308_2, hi308_2⟩ := at_T25 HR0.out x3_2 p308 q308
                        have hw308_2 := hx308_2
                        have hw308_1 := hx308_1
                        have hw308_0 := hx308_0
                        obtain rfl : ad295 = ad308 := (by injection e308)
                        replace hx308_0 := hb_ HB hx308_0
                        replace hx308_1 := hb_ HB hx308_1
                        replace hx308_2 := hb_ HB hx308_2
                        have HR308_1 := Aside0.mk hi308_1
                        have HC308_1 := Aside0.mk hl308_1
                        clear hi308_1 hl308_1
                        have HR308_2 := Aside0.mk hi308_2
                        have HC308_2 := Aside0.mk hl308_2
                        clear hi308_2 hl308_2
                        replace p308 := eq_true p308
                        replace q308 := eq_true q308
                        refine start_ (n := 10) (S := fun w' => w'.cell? (ad295.add ((x6_5).toNat * 3)) = some (.int .i64 ((rd_T25 l0 x6_5).f0)) ∧ w'.cell? ⟨(ad295.add ((x6_5).toNat * 3)).block, (ad295.add ((x6_5).toNat * 3)).off + 1, none⟩ = some (.slice A307_1 ((rd_T25 l0 x6_5).f1).length c307_1) ∧ w'.cell? ⟨(ad295.add ((x6_5).toNat * 3)).block, (ad295.add ((x6_5).toNat * 3)).off + 2, none⟩ = some (.slice A307_2 ((rd_T25 l0 x6_5).f2).length c307_2) ∧ w'.cell? (ad295.add ((x3_2).toNat * 3)) = some (.int .i64 ((rd_T25 l0 x3_2).f0)) ∧ w'.cell? ⟨(ad295.add ((x3_2).toNat * 3)).block, (ad295.add ((x3_2).toNat * 3)).off + 1, none⟩ = some (.slice A308_1 ((rd_T25 l0 x3_2).f1).length c308_1) ∧ w'.cell? ⟨(ad295.add ((x3_2).toNat * 3)).block, (ad295.add ((x3_2).toNat * 3)).off + 2, none⟩ = some (.slice A308_2 ((rd_T25 l0 x3_2).f2).length c308_2)) (ds := []) L31_27 (by kernel_rfl) rfl rfl ⟨((HB.out.cell (World.block_lt_of_cell? w _ hw307_0)).trans hw307_0), ((HB.out.cell (World.block_lt_of_cell? w _ hw307_1)).trans hw307_1), ((HB.out.cell (World.block_lt_of_cell? w _ hw307_2)).trans hw307_2), ((HB.out.cell (World.block_lt_of_cell? w _ hw308_0)).trans hw308_0), ((HB.out.cell (World.block_lt_of_cell? w _ hw308_1)).trans hw308_1), ((HB.out.cell (World.block_lt_of_cell? w _ hw308_2)).trans hw308_2)⟩ (fun hHeld => ?_); refine with_tabW fullerref10_Check.tab17 fullerref10_Check.bits17 (fun HT_ HW_ => ?_)
                        generalize wr.drew = w33 at HB HR307_1 HR307_2 HR308_1 HR308_2 hx307_0 hx307_1 hx307_2 hx308_0 hx308_1 hx308_2 hHeld ⊢
                        refine pu_ 0 (some 89) L31_28 HT_ ?_
                        refine pu_ 1 (some 90) L31_29 HT_ ?_
                        refine pu_ 2 (some 91) L31_30 HT_ ?_
                        refine pu_ 4 (some 93) L31_31 HT_ ?_
                        refine pu_ 5 (some 94) L31_32 HT_ ?_
                        refine pu_ 6 (some 95) L31_33 HT_ ?_
                        refine ta_ 3 (some 92) L31_34 HT_ HW_ hHeld ?_ (hy := by rintro w' ⟨s0, s1, s2, s3, s4, s5⟩; go_simp; with_reducible rfl)
                        refine ta_ 7 (some 96) L31_35 HT_ HW_ hHeld ?_ (hy := by rintro w' ⟨s0, s1, s2, s3, s4, s5⟩; go_simp; with_reducible rfl)
                        refine one_ (i := 8) (N := some 97) L31_36 rfl rfl (one_of HT_.out (by kernel_rfl)) (by decide) (fun K hK => ?_)
                        refine goes_ Try.func59 (by kernel_rfl) rfl #[.agg #[.int .i64 ((rd_T25 l0 x6_5).f0), .slice A307_1 ((rd_T25 l0 x6_5).f1).length c307_1, .slice A307_2 ((rd_T25 l0 x6_5).f2).length c307_2], .agg #[.int .i64 ((rd_T25 l0 x3_2).f0), .slice A308_1 ((rd_T25 l0 x3_2).f1).length c308_1, .slice A308_2 ((rd_T25 l0 x3_2).f2).length c308_2]] (by rfl) rfl rfl (by (try simp only [List.map_toArray, List.map_cons, List.map_nil]); first | done | rfl | (simp only [List.length_drop, List.length_take]; rfl)) ?_
                        with_reducible refine (fullerref10_like.calls k5 ((rd_T25 l0 x6_5).f0) _ _ ((rd_T25 l0 x6_5).f1) _ _ ((rd_T25 l0 x6_5).f2) ((rd_T25 l0 x3_2).f0) _ _ ((rd_T25 l0 x3_2).f1) _ _ ((rd_T25 l0 x3_2).f2) false _ ?side1 ?side2 ?side3 ?side4 ?side5 ?side6 ?side7 ?side8 A29.out).mono ?_
                        (case side1 => exact mvC_ ((Kd.C_below HR307_1.out HB.out)))
                        (case side2 => exact HC307_1.out)
                        (case side3 => exact mvC_ ((Kd.C_below HR307_2.out HB.out)))
                        (case side4 => exact HC307_2.out)
                        (case side5 => exact mvC_ ((Kd.C_below HR308_1.out HB.out)))
                        (case side6 => exact HC308_1.out)
                        (case side7 => exact mvC_ ((Kd.C_below HR308_2.out HB.out)))
                        (case side8 => exact HC308_2.out)
                        rintro e w34 ⟨rfl, hb⟩
                        refine ⟨_, rfl, ?_⟩
                        replace HB := Aside0.mk (below_step (bq0_ HB.out) hb)
                        (try clear hb)
                        (try clear hb2)
                        (try clear hk)
                        (try clear hi)
                        refine hK.out _ _ ⟨((HB.out.cell (World.block_lt_of_cell? w _ hw307_0)).trans hw307_0), ((HB.out.cell (World.block_lt_of_cell? w _ hw307_1)).trans hw307_1), ((HB.out.cell (World.block_lt_of_cell? w _ hw307_2)).trans hw307_2), ((HB.out.cell (World.block_lt_of_cell? w _ hw308_0)).trans hw308_0), ((HB.out.cell (World.block_lt_of_cell? w _ hw308_1)).trans hw308_1), ((HB.out.cell (World.block_lt_of_cell? w _ hw308_2)).trans hw308_2)⟩ (fun hHeld => ?_)
                        clear hK K
                        refine norm_ (a' := ?_) ?_ ?_
                        rotate_left
                        ·show Act.put _ (some 97) _ = _
                         simp only [Act.put, sA_, sB_, sC_, i64_w, i32_w]
                         rfl
                        refine pu_ 9 (some 7) L31_37 HT_ ?_
                        refine done_ (done_of HT_.out (by kernel_rfl)) ?_
                        try go_wp2
                        go_ret
                        exact ⟨by first | rfl | (simp <;> rfl) | (simp [*] <;> rfl), bq0_ HB.out⟩
                      ·rw [if_neg c28] at H
                       exact absurd H (by simp)
                     ·rw [if_neg c27] at H
                      exact absurd H (by simp)
                    ·rw [if_neg c26] at H
                     exact absurd H (by simp)
                   ·rw [if_neg c25] at H
                    exact absurd H (by simp)
                  ·rw [if_neg c24] at H
                   have c24b0 : decide (x6_5 < x3_2) = false := decide_eq_false c24
                   clear c24
                   have H' := Aside0.mk H
                   clear H
                   go_wp2
                   go_roundg k5
                   case measure => have := HJ1.out; have := HK2.out; have := HJ7.out; have := HK4.out; have := HK5.out; omega
                   case rel => exact ⟨(wrap64 (x3_2 + 1)), (by first | rfl | (simp; done) | (simp [*]; done)), H', ⟨by have := HJ1.out; have := HK2.out; have := HJ7.out; have := HK4.out; have := HK5.out; omega⟩, ⟨bq0_ HB.out⟩⟩
              ·rw [if_neg c19] at H
               exact absurd H (by simp)
             ·rw [if_neg c18] at H
              exact absurd H (by simp)
       ·rw [if_neg c6] at H
        exact absurd H (by simp)
      ·rw [if_neg c5] at H
       have c5b0 : decide (x3_2 < (l0.length : Int)) = false := decide_eq_false c5
       clear c5
       obtain rfl := Option.some.inj H
       go_wp2
       go_ret
       exact ⟨by first | rfl | (simp <;> rfl) | (simp [*] <;> rfl), bq0_ HB.out⟩
end Go.Proofs.Ytalmgghhpgfgoaa.A
