/- Lean functions that answer as the Go functions do, and the proofs that they do; no conditions. Written by this session's own driver: a scratch copy of the kit's print with the session's additions (wip/xprint). -/
import Derived.Test.YtjcgadfmhfhbgaaAx0
import Derived.Test.YtjcgadfmhfhbgaaAx11
namespace Go.Proofs.Ytjcgadfmhfhbgaa.A
open Go.RowKit Go.Proofs.YtjcgadfmhfhbgaaW.PrintWords Go.Proofs.YtjcgadfmhfhbgaaW.PrintLast Go.Proofs.YtjcgadfmhfhbgaaW.PrintMore
attribute [local go_sem] max2_int min2_int max_two min_two max_three min_three max_four min_four
set_option linter.unusedVariables false
set_option linter.unusedSimpArgs false
def L28_0 : Array Bool := #[false, false, false, false, false, false, false, false, false, false, false, false]
def L28_1 : Array Bool := #[true, false, false, false, false, false, false, false, false, false, false, false]
def L28_2 : Array Bool := #[true, true, false, false, false, false, false, false, false, false, false, false]
def L28_3 : Array Bool := #[true, true, true, false, false, false, false, false, false, false, false, false]
def L28_4 : Array Bool := #[true, true, true, true, false, false, false, false, false, false, false, false]
def L28_5 : Array Bool := #[true, true, true, true, false, true, false, false, false, false, false, false]
def L28_6 : Array Bool := #[true, true, true, true, false, true, true, false, false, false, false, false]
def L28_7 : Array Bool := #[true, true, true, true, false, true, true, true, false, false, false, false]
def L28_8 : Array Bool := #[true, true, true, true, false, true, true, true, true, false, false, false]
def L28_9 : Array Bool := #[true, true, true, true, true, true, true, true, true, false, false, false]
def L28_10 : Array Bool := #[true, true, true, true, true, true, true, true, true, true, false, false]
def L28_11 : Array Bool := #[true, true, true, true, true, true, true, true, true, true, true, false]
def L28_12 : Array Bool := #[true, true, true, true, true, true, true, true, true, true, true, true]
def L28_13 : Array Bool := #[false, false, false, false, false, false, false, false, false, false, false, false, false, false, false, false, false, false, false, false, false, false, false, false, false, false, false, false, false]
def L28_14 : Array Bool := #[true, false, false, false, false, false, false, false, false, false, false, false, false, false, false, false, false, false, false, false, false, false, false, false, false, false, false, false, false]
def L28_15 : Array Bool := #[true, true, false, false, false, false, false, false, false, false, false, false, false, false, false, false, false, false, false, false, false, false, false, false, false, false, false, false, false]
def L28_16 : Array Bool := #[true, true, true, false, false, false, false, false, false, false, false, false, false, false, false, false, false, false, false, false, false, false, false, false, false, false, false, false, false]
def L28_17 : Array Bool := #[true, true, true, true, false, false, false, false, false, false, false, false, false, false, false, false, false, false, false, false, false, false, false, false, false, false, false, false, false]
def L28_18 : Array Bool := #[true, true, true, true, true, false, false, false, false, false, false, false, false, false, false, false, false, false, false, false, false, false, false, false, false, false, false, false, false]
def L28_19 : Array Bool := #[true, true, true, true, true, true, false, false, false, false, false, false, false, false, false, false, false, false, false, false, false, false, false, false, false, false, false, false, false]
def L28_20 : Array Bool := #[true, true, true, true, true, true, true, false, false, false, false, false, false, false, false, false, false, false, false, false, false, false, false, false, false, false, false, false, false]
def L28_21 : Array Bool := #[true, true, true, true, true, true, true, false, true, false, false, false, false, false, false, false, false, false, false, false, false, false, false, false, false, false, false, false, false]
def L28_22 : Array Bool := #[true, true, true, true, true, true, true, false, true, true, false, false, false, false, false, false, false, false, false, false, false, false, false, false, false, false, false, false, false]
def L28_23 : Array Bool := #[true, true, true, true, true, true, true, false, true, true, true, false, false, false, false, false, false, false, false, false, false, false, false, false, false, false, false, false, false]
def L28_24 : Array Bool := #[true, true, true, true, true, true, true, false, true, true, true, true, false, false, false, false, false, false, false, false, false, false, false, false, false, false, false, false, false]
def L28_25 : Array Bool := #[true, true, true, true, true, true, true, true, true, true, true, true, false, false, false, false, false, false, false, false, false, false, false, false, false, false, false, false, false]
def L28_26 : Array Bool := #[true, true, true, true, true, true, true, true, true, true, true, true, true, false, false, false, false, false, false, false, false, false, false, false, false, false, false, false, false]
def L28_27 : Array Bool := #[true, true, true, true, true, true, true, true, true, true, true, true, true, true, false, false, false, false, false, false, false, false, false, false, false, false, false, false, false]
def L28_28 : Array Bool := #[true, true, true, true, true, true, true, true, true, true, true, true, true, true, true, false, false, false, false, false, false, false, false, false, false, false, false, false, false]
def L28_29 : Array Bool := #[true, true, true, true, true, true, true, true, true, true, true, true, true, true, true, true, false, false, false, false, false, false, false, false, false, false, false, false, false]
def L28_30 : Array Bool := #[true, true, true, true, true, true, true, true, true, true, true, true, true, true, true, true, true, false, false, false, false, false, false, false, false, false, false, false, false]
def L28_31 : Array Bool := #[true, true, true, true, true, true, true, true, true, true, true, true, true, true, true, true, true, true, false, false, false, false, false, false, false, false, false, false, false]
def L28_32 : Array Bool := #[true, true, true, true, true, true, true, true, true, true, true, true, true, true, true, true, true, true, true, false, false, false, false, false, false, false, false, false, false]
def L28_33 : Array Bool := #[true, true, true, true, true, true, true, true, true, true, true, true, true, true, true, true, true, true, true, true, false, false, false, false, false, false, false, false, false]
def L28_34 : Array Bool := #[true, true, true, true, true, true, true, true, true, true, true, true, true, true, true, true, true, true, true, true, false, true, false, false, false, false, false, false, false]
def L28_35 : Array Bool := #[true, true, true, true, true, true, true, true, true, true, true, true, true, true, true, true, true, true, true, true, false, true, true, false, false, false, false, false, false]
def L28_36 : Array Bool := #[true, true, true, true, true, true, true, true, true, true, true, true, true, true, true, true, true, true, true, true, false, true, true, true, false, false, false, false, false]
def L28_37 : Array Bool := #[true, true, true, true, true, true, true, true, true, true, true, true, true, true, true, true, true, true, true, true, false, true, true, true, true, false, false, false, false]
def L28_38 : Array Bool := #[true, true, true, true, true, true, true, true, true, true, true, true, true, true, true, true, true, true, true, true, true, true, true, true, true, false, false, false, false]
def L28_39 : Array Bool := #[true, true, true, true, true, true, true, true, true, true, true, true, true, true, true, true, true, true, true, true, true, true, true, true, true, true, false, false, false]
def L28_40 : Array Bool := #[true, true, true, true, true, true, true, true, true, true, true, true, true, true, true, true, true, true, true, true, true, true, true, true, true, true, true, false, false]
def L28_41 : Array Bool := #[true, true, true, true, true, true, true, true, true, true, true, true, true, true, true, true, true, true, true, true, true, true, true, true, true, true, true, true, false]
def L28_42 : Array Bool := #[true, true, true, true, true, true, true, true, true, true, true, true, true, true, true, true, true, true, true, true, true, true, true, true, true, true, true, true, true]
def fullerref10_Same.l0 : Nat → List (S48) → List (S48) → Int → Option (Bool)
 | 0, _, _, _ => none
 | k + 1, x0, x1, x5 => if x5 < (x0.length : Int) then (if 0 ≤ x5 then (if x5 < (x1.length : Int) then ((fullerref02_Same.f k ((rd_T48 x0 x5).f1) ((rd_T48 x1 x5).f1)).bind fun t192 => (if t192 = true then (if ((rd_T48 x0 x5).f0) = ((rd_T48 x1 x5).f0) then ((fullerref02_Same.f k ((rd_T48 x0 x5).f2) ((rd_T48 x1 x5).f2)).bind fun t197 => (if t197 = true then (fullerref10_Same.l0 k x0 x1 (wrap64 (x5 + 1))) else (some false))) else (some false)) else (some false))) else (none)) else (none)) else (some true)
def fullerref10_Same.f (k : Nat) (l0 : List (S48)) (l1 : List (S48)) : Option (Bool) := if (l0.length : Int) = (l1.length : Int) then (fullerref10_Same.l0 k l0 l1 0) else (some false)
theorem fullerref10_Same.mono_l : ∀ k, (∀ y0 y1 y2, LeO (fullerref10_Same.l0 k y0 y1 y2) (fullerref10_Same.l0 (k + 1) y0 y1 y2))
 | 0 => fun _ _ _ r h => by simp [fullerref10_Same.l0] at h
 | k + 1 => by
  have ih0 := fullerref10_Same.mono_l k
  ·intro y0 y1 y2
   unfold fullerref10_Same.l0
   repeat' first
    | (with_reducible first | exact ih0 _ _ _ | exact fullerref02_Same.mono _ _ _ | exact LeO.refl _ | exact LeO.none _ | refine LeO.ite ?_ ?_ | refine LeO.bind ?_ (fun _ => ?_))
    | first | exact ih0 _ _ _ | exact fullerref02_Same.mono _ _ _ | exact LeO.none _ | refine LeO.ite ?_ ?_ | refine LeO.bind ?_ (fun _ => ?_)
theorem fullerref10_Same.mono : ∀ a0 a1 k, LeO (fullerref10_Same.f k a0 a1) (fullerref10_Same.f (k + 1) a0 a1) := by
 intro a0 a1 k
 have ih0 := fullerref10_Same.mono_l k
 unfold fullerref10_Same.f
 repeat' first
  | (with_reducible first | exact ih0 _ _ _ | exact fullerref02_Same.mono _ _ _ | exact LeO.refl _ | exact LeO.none _ | refine LeO.ite ?_ ?_ | refine LeO.bind ?_ (fun _ => ?_))
  | first | exact ih0 _ _ _ | exact fullerref02_Same.mono _ _ _ | exact LeO.none _ | refine LeO.ite ?_ ?_ | refine LeO.bind ?_ (fun _ => ?_)
def fullerref10_Same.T6 : Bool × List (List Nat × List Nat) := (true, [([], []), ([], []), ([0, 1], [0, 1]), ([2], [2]), ([3], [3]), ([], []), ([], []), ([5, 6], [5, 6]), ([7], [7]), ([8], [8]), ([4, 9], [4, 9]), ([10, 10, 0, 1, 2, 3, 4, 5, 6, 7, 8, 9, 10], [10])])
def fullerref10_Same.B6 : List Nat := [0, 0, 3, 7, 15, 0, 0, 96, 224, 480, 1023, 2047]
theorem fullerref10_Same.tab6 : rtab .any (opsOf Try.f28 6) = fullerref10_Same.T6 := by kernel_rfl
theorem fullerref10_Same.bits6 : waitsOk fullerref10_Same.T6.2 fullerref10_Same.B6 = true := by kernel_rfl
def fullerref10_Same.T7 : Bool × List (List Nat × List Nat) := (true, [([], []), ([0], [0]), ([1], [1]), ([2], [2]), ([2], [2]), ([3, 4, 2], [2, 3, 4]), ([5, 2], [2, 5]), ([6, 2], [2, 6]), ([2], [2]), ([2], [2]), ([8, 9, 2], [2, 8, 9]), ([10, 2], [2, 10]), ([11, 2], [2, 11]), ([7, 12, 2], [2, 7, 12]), ([2, 13], [2, 13]), ([14, 2], [14]), ([15], [15]), ([15], [15]), ([16, 17, 15], [15, 16, 17]), ([18, 15], [15, 18]), ([19, 15], [15, 19]), ([15], [15]), ([15], [15]), ([21, 22, 15], [15, 21, 22]), ([23, 15], [15, 23]), ([24, 15], [15, 24]), ([20, 25, 15, 15], [15, 20, 25]), ([26, 15], [15, 26]), ([15, 27], [15, 27])])
def fullerref10_Same.B7 : List Nat := [0, 1, 3, 7, 7, 31, 63, 127, 7, 7, 775, 1799, 3847, 8191, 16383, 32767, 65535, 65535, 262143, 524287, 1048575, 65535, 65535, 6356991, 14745599, 31522815, 67108863, 134217727, 268435455]
theorem fullerref10_Same.tab7 : rtab .any (opsOf Try.f28 7) = fullerref10_Same.T7 := by kernel_rfl
theorem fullerref10_Same.bits7 : waitsOk fullerref10_Same.T7.2 fullerref10_Same.B7 = true := by kernel_rfl
set_option maxHeartbeats 8000000 in
set_option maxRecDepth 100000 in
theorem fullerref10_Same.calls (k : Nat) (A0 : Option Addr) (c0 : Nat) (l0 : List (S48)) (A1 : Option Addr) (c1 : Nat) (l1 : List (S48)) (r : Bool) (w : World) (hr0 : Kd.C k48 w A0 l0.length l0) (hc0 : l0.length ≤ c0) (hr1 : Kd.C k48 w A1 l1.length l1) (hc1 : l1.length ≤ c1) (h : fullerref10_Same.f k l0 l1 = some r) :
  Calls Try.prog 28 #[.slice A0 l0.length c0, .slice A1 l1.length c1] w fun e w' => e = .returned (.bool r) ∧ Below w.heap.size w w' := by
 have HR0 := Aside0.mk hr0
 have HC0 := Aside0.mk hc0
 clear hr0 hc0
 have HR1 := Aside0.mk hr1
 have HC1 := Aside0.mk hc1
 clear hr1 hc1
 have HB := Aside0.mk (Below.refl w.heap.size w)
 have H : (if (l0.length : Int) = (l1.length : Int) then (fullerref10_Same.l0 k l0 l1 0) else (some false)) = some r := h
 clear h
 by_cases c3 : (l0.length : Int) = (l1.length : Int)
 ·rw [if_pos c3] at H
  have c3b0 : ((l0.length : Int) == (l1.length : Int)) = true := beq_iff_eq.mpr c3
  have c3b1 : ((l0.length : Int) != (l1.length : Int)) = false := bne_eq_false_iff_eq.mpr c3
  have c3b2 : (l0.length == l1.length) = true := by first | simpa using c3 | (simp at c3 ⊢; omega)
  clear c3
  have H' := Aside0.mk H
  clear H
  go_enter Try.func28, Try.ntmps28
  go_wp2
  go_loopg [5] k (fun kq v5 w' => ∃ (x5_1 : Int), v5 = .int .i64 x5_1 ∧ Aside0 (fullerref10_Same.l0 kq l0 l1 x5_1 = some r) ∧ Aside0 (kq ≤ k) ∧ Aside0 (Below w.heap.size w w'))
  case atStart => exact ⟨(0), (by first | rfl | (simp; done) | (simp [*]; done)), H', ⟨Nat.le_refl _⟩, ⟨bq0_ HB.out⟩⟩
  case round =>
   clear H'
   try clear c1
   try clear c2
   try clear p2
   try clear c3
   try clear c3b0
   try clear c3b1
   try clear c3b2
   obtain ⟨x5_1, rfl, HA, HK1, HB⟩ := hrel
   cases gk with
   | zero => exact absurd HA.out (by simp [fullerref10_Same.l0])
   | succ k1 =>
    have H := HA.out
    clear HA
    simp only [fullerref10_Same.l0] at H
    by_cases c4 : x5_1 < (l0.length : Int)
    ·rw [if_pos c4] at H
     have c4b0 : decide (x5_1 < (l0.length : Int)) = true := decide_eq_true c4
     clear c4
     by_cases c5 : 0 ≤ x5_1
     ·rw [if_pos c5] at H
      have c5b0 : decide (0 ≤ x5_1) = true := decide_eq_true c5
      clear c5
      by_cases c6 : x5_1 < (l1.length : Int)
      ·rw [if_pos c6] at H
       have c6b0 : decide (x5_1 < (l1.length : Int)) = true := decide_eq_true c6
       clear c6
       replace H := Option.bind_eq_some_iff.mp H
       obtain ⟨t192, A70, H⟩ := H
       replace H : (if t192 = true then (if ((rd_T48 l0 x5_1).f0) = ((rd_T48 l1 x5_1).f0) then ((fullerref02_Same.f k1 ((rd_T48 l0 x5_1).f2) ((rd_T48 l1 x5_1).f2)).bind fun t197 => (if t197 = true then (fullerref10_Same.l0 k1 l0 l1 (wrap64 (x5_1 + 1))) else (some false))) else (some false)) else (some false)) = some r := H
       have A7 := Aside0.mk A70
       clear A70
       by_cases c8 : t192 = true
       ·subst c8
        have H1 : (if ((rd_T48 l0 x5_1).f0) = ((rd_T48 l1 x5_1).f0) then ((fullerref02_Same.f k1 ((rd_T48 l0 x5_1).f2) ((rd_T48 l1 x5_1).f2)).bind fun t197 => (if t197 = true then (fullerref10_Same.l0 k1 l0 l1 (wrap64 (x5_1 + 1))) else (some false))) else (some false)) = some r := by rw [if_pos rfl] at H; exact H
        clear H
        have H := H1
        clear H1
        by_cases c9 : ((rd_T48 l0 x5_1).f0) = ((rd_T48 l1 x5_1).f0)
        ·rw [if_pos c9] at H
         obtain ⟨c9b0, c9b1⟩ := eqT_ c9
         clear c9
         replace H := Option.bind_eq_some_iff.mp H
         obtain ⟨t197, A100, H⟩ := H
         replace H : (if t197 = true then (fullerref10_Same.l0 k1 l0 l1 (wrap64 (x5_1 + 1))) else (some false)) = some r := H
         have A10 := Aside0.mk A100
         clear A100
         by_cases c11 : t197 = true
         ·subst c11
          have H1 : (fullerref10_Same.l0 k1 l0 l1 (wrap64 (x5_1 + 1))) = some r := by rw [if_pos rfl] at H; exact H
          clear H
          have H := H1
          clear H1
          have H' := Aside0.mk H
          clear H
          try go_wp2
          replace HB := Aside0.mk (below_drew1 HB.out)
          have p190 : 0 ≤ (x5_1 : Int) := od_
          have q190 : x5_1 < (l0.length : Int) := od_
          obtain ⟨ad190, A190_1, c190_1, A190_2, c190_2, e190, hx190_0, hx190_1, hx190_2, hl190_1, hi190_1, hl190_2, hi190_2⟩ := at_T48 HR0.out x5_1 p190 q190
          have hw190_2 := hx190_2
          have hw190_1 := hx190_1
          have hw190_0 := hx190_0
          cases e190
          replace hx190_0 := hb_ HB hx190_0
          replace hx190_1 := hb_ HB hx190_1
          replace hx190_2 := hb_ HB hx190_2
          have HR190_1 := Aside0.mk hi190_1
          have HC190_1 := Aside0.mk hl190_1
          clear hi190_1 hl190_1
          have HR190_2 := Aside0.mk hi190_2
          have HC190_2 := Aside0.mk hl190_2
          clear hi190_2 hl190_2
          replace p190 := eq_true p190
          replace q190 := eq_true q190
          have p191 : 0 ≤ (x5_1 : Int) := od_
          have q191 : x5_1 < (l1.length : Int) := od_
          obtain ⟨ad191, A191_1, c191_1, A191_2, c191_2, e191, hx191_0, hx191_1, hx191_2, hl191_1, hi191_1, hl191_2, hi191_2⟩ := at_T48 HR1.out x5_1 p191 q191
          have hw191_2 := hx191_2
          have hw191_1 := hx191_1
          have hw191_0 := hx191_0
          cases e191
          replace hx191_0 := hb_ HB hx191_0
          replace hx191_1 := hb_ HB hx191_1
          replace hx191_2 := hb_ HB hx191_2
          have HR191_1 := Aside0.mk hi191_1
          have HC191_1 := Aside0.mk hl191_1
          clear hi191_1 hl191_1
          have HR191_2 := Aside0.mk hi191_2
          have HC191_2 := Aside0.mk hl191_2
          clear hi191_2 hl191_2
          replace p191 := eq_true p191
          replace q191 := eq_true q191
          refine start_ (n := 12) (S := fun w' => w'.cell? (ad190.add ((x5_1).toNat * 3)) = some (.int .i64 ((rd_T48 l0 x5_1).f0)) ∧ w'.cell? ⟨(ad190.add ((x5_1).toNat * 3)).block, (ad190.add ((x5_1).toNat * 3)).off + 1, none⟩ = some (.slice A190_1 ((rd_T48 l0 x5_1).f1).length c190_1) ∧ w'.cell? ⟨(ad190.add ((x5_1).toNat * 3)).block, (ad190.add ((x5_1).toNat * 3)).off + 2, none⟩ = some (.slice A190_2 ((rd_T48 l0 x5_1).f2).length c190_2) ∧ w'.cell? (ad191.add ((x5_1).toNat * 3)) = some (.int .i64 ((rd_T48 l1 x5_1).f0)) ∧ w'.cell? ⟨(ad191.add ((x5_1).toNat * 3)).block, (ad191.add ((x5_1).toNat * 3)).off + 1, none⟩ = some (.slice A191_1 ((rd_T48 l1 x5_1).f1).length c191_1) ∧ w'.cell? ⟨(ad191.add ((x5_1).toNat * 3)).block, (ad191.add ((x5_1).toNat * 3)).off + 2, none⟩ = some (.slice A191_2 ((rd_T48 l1 x5_1).f2).length c191_2)) (ds := []) L28_0 (by kernel_rfl) rfl rfl ⟨((HB.out.cell (World.block_lt_of_cell? w _ hw190_0)).trans hw190_0), ((HB.out.cell (World.block_lt_of_cell? w _ hw190_1)).trans hw190_1), ((HB.out.cell (World.block_lt_of_cell? w _ hw190_2)).trans hw190_2), ((HB.out.cell (World.block_lt_of_cell? w _ hw191_0)).trans hw191_0), ((HB.out.cell (World.block_lt_of_cell? w _ hw191_1)).trans hw191_1), ((HB.out.cell (World.block_lt_of_cell? w _ hw191_2)).trans hw191_2)⟩ (fun hHeld => ?_); refine with_tabW fullerref10_Same.tab6 fullerref10_Same.bits6 (fun HT_ HW_ => ?_)
          generalize wr.drew = w12 at HB HR190_1 HR190_2 HR191_1 HR191_2 hx190_0 hx190_1 hx190_2 hx191_0 hx191_1 hx191_2 hHeld ⊢
          refine pu_ 0 (some 18) L28_1 HT_ ?_
          refine pu_ 1 (some 19) L28_2 HT_ ?_
          refine pu_ 2 (some 20) L28_3 HT_ ?_
          refine pu_ 3 (some 21) L28_4 HT_ ?_
          refine pu_ 5 (some 23) L28_5 HT_ ?_
          refine pu_ 6 (some 24) L28_6 HT_ ?_
          refine pu_ 7 (some 25) L28_7 HT_ ?_
          refine pu_ 8 (some 26) L28_8 HT_ ?_
          refine ta_ 4 (some 22) L28_9 HT_ HW_ hHeld ?_ (hy := by rintro w' ⟨s0, s1, s2, s3, s4, s5⟩; go_simp; with_reducible rfl)
          refine ta_ 9 (some 27) L28_10 HT_ HW_ hHeld ?_ (hy := by rintro w' ⟨s0, s1, s2, s3, s4, s5⟩; go_simp; with_reducible rfl)
          refine one_ (i := 10) (N := some 28) L28_11 rfl rfl (one_of HT_.out (by kernel_rfl)) (by decide) (fun K hK => ?_)
          refine goes_ Try.func52 (by kernel_rfl) rfl #[.slice A190_1 ((rd_T48 l0 x5_1).f1).length c190_1, .slice A191_1 ((rd_T48 l1 x5_1).f1).length c191_1] (by rfl) rfl rfl (by (try simp only [List.map_toArray, List.map_cons, List.map_nil]); first | done | rfl | (simp only [List.length_drop, List.length_take]; rfl)) ?_
          with_reducible refine (fullerref02_Same.calls k1 _ _ ((rd_T48 l0 x5_1).f1) _ _ ((rd_T48 l1 x5_1).f1) true _ ?side1 ?side2 ?side3 ?side4 A7.out).mono ?_
          (case side1 => exact mvC_ ((Kd.C_below HR190_1.out HB.out)))
          (case side2 => exact HC190_1.out)
          (case side3 => exact mvC_ ((Kd.C_below HR191_1.out HB.out)))
          (case side4 => exact HC191_1.out)
          rintro e w' ⟨rfl, ⟨nd, rfl⟩⟩
          refine ⟨_, rfl, ?_⟩
          refine hK.out _ _ ⟨((HB.out.cell (World.block_lt_of_cell? w _ hw190_0)).trans hw190_0), ((HB.out.cell (World.block_lt_of_cell? w _ hw190_1)).trans hw190_1), ((HB.out.cell (World.block_lt_of_cell? w _ hw190_2)).trans hw190_2), ((HB.out.cell (World.block_lt_of_cell? w _ hw191_0)).trans hw191_0), ((HB.out.cell (World.block_lt_of_cell? w _ hw191_1)).trans hw191_1), ((HB.out.cell (World.block_lt_of_cell? w _ hw191_2)).trans hw191_2)⟩ (fun hHeld => ?_)
          clear hK K
          refine norm_ (a' := ?_) ?_ ?_
          rotate_left
          ·show Act.put _ (some 28) _ = _
           simp only [Act.put, sA_, sB_, sC_, i64_w, i32_w]
           rfl
          refine pu_ 11 (some 6) L28_12 HT_ ?_
          refine done_ (done_of HT_.out (by kernel_rfl)) ?_
          try go_wp2
          (try (rw [drewN_self w12]; generalize hq_ : World.drewN w12 _ = w12; have n0_ : Aside0 (Below w.heap.size w w12) := ⟨by rw [← hq_]; exact (bq0_ HB.out)⟩; clear HB hq_; have HB := n0_; clear n0_))
          replace HB := Aside0.mk (below_drew1 HB.out)
          have p193 : 0 ≤ (x5_1 : Int) := od_
          have q193 : x5_1 < (l0.length : Int) := od_
          obtain ⟨ad193, A193_1, c193_1, A193_2, c193_2, e193, hx193_0, hx193_1, hx193_2, hl193_1, hi193_1, hl193_2, hi193_2⟩ := at_T48 HR0.out x5_1 p193 q193
          have hw193_2 := hx193_2
          have hw193_1 := hx193_1
          have hw193_0 := hx193_0
          obtain rfl : ad190 = ad193 := (by injection e193)
          replace hx193_0 := hb_ HB hx193_0
          replace hx193_1 := hb_ HB hx193_1
          replace hx193_2 := hb_ HB hx193_2
          have HR193_1 := Aside0.mk hi193_1
          have HC193_1 := Aside0.mk hl193_1
          clear hi193_1 hl193_1
          have HR193_2 := Aside0.mk hi193_2
          have HC193_2 := Aside0.mk hl193_2
          clear hi193_2 hl193_2
          replace p193 := eq_true p193
          replace q193 := eq_true q193
          have p194 : 0 ≤ (x5_1 : Int) := od_
          have q194 : x5_1 < (l1.length : Int) := od_
          obtain ⟨ad194, A194_1, c194_1, A194_2, c194_2, e194, hx194_0, hx194_1, hx194_2, hl194_1, hi194_1, hl194_2, hi194_2⟩ := at_T48 HR1.out x5_1 p194 q194
          have hw194_2 := hx194_2
          have hw194_1 := hx194_1
          have hw194_0 := hx194_0
          obtain rfl : ad191 = ad194 := (by injection e194)
          replace hx194_0 := hb_ HB hx194_0
          replace hx194_1 := hb_ HB hx194_1
          replace hx194_2 := hb_ HB hx194_2
          have HR194_1 := Aside0.mk hi194_1
          have HC194_1 := Aside0.mk hl194_1
          clear hi194_1 hl194_1
          have HR194_2 := Aside0.mk hi194_2
          have HC194_2 := Aside0.mk hl194_2
          clear hi194_2 hl194_2
          replace p194 := eq_true p194
          replace q194 := eq_true q194
          have p195 : 0 ≤ (x5_1 : Int) := od_
          have q195 : x5_1 < (l0.length : Int) := od_
          obtain ⟨ad195, A195_1, c195_1, A195_2, c195_2, e195, hx195_0, hx195_1, hx195_2, hl195_1, hi195_1, hl195_2, hi195_2⟩ := at_T48 HR0.out x5_1 p195 q195
          have hw195_2 := hx195_2
          have hw195_1 := hx195_1
          have hw195_0 := hx195_0
          obtain rfl : ad190 = ad195 := (by injection e195)
          replace hx195_0 := hb_ HB hx195_0
          replace hx195_1 := hb_ HB hx195_1
          replace hx195_2 := hb_ HB hx195_2
          have HR195_1 := Aside0.mk hi195_1
          have HC195_1 := Aside0.mk hl195_1
          clear hi195_1 hl195_1
          have HR195_2 := Aside0.mk hi195_2
          have HC195_2 := Aside0.mk hl195_2
          clear hi195_2 hl195_2
          replace p195 := eq_true p195
          replace q195 := eq_true q195
          have ea_ := Option.some.inj (hx193_1.symm.trans hx195_1)
          injection ea_ with ea_ en_ ec_
          subst ea_
          subst ec_
          clear en_
          have ea_ := Option.some.inj (hx193_2.symm.trans hx195_2)
          injection ea_ with ea_ en_ ec_
          subst ea_
          subst ec_
          clear en_
          have p196 : 0 ≤ (x5_1 : Int) := od_
          have q196 : x5_1 < (l1.length : Int) := od_
          obtain ⟨ad196, A196_1, c196_1, A196_2, c196_2, e196, hx196_0, hx196_1, hx196_2, hl196_1, hi196_1, hl196_2, hi196_2⟩ := at_T48 HR1.out x5_1 p196 q196
          have hw196_2 := hx196_2
          have hw196_1 := hx196_1
          have hw196_0 := hx196_0
          obtain rfl : ad191 = ad196 := (by injection e196)
          replace hx196_0 := hb_ HB hx196_0
          replace hx196_1 := hb_ HB hx196_1
          replace hx196_2 := hb_ HB hx196_2
          have HR196_1 := Aside0.mk hi196_1
          have HC196_1 := Aside0.mk hl196_1
          clear hi196_1 hl196_1
          have HR196_2 := Aside0.mk hi196_2
          have HC196_2 := Aside0.mk hl196_2
          clear hi196_2 hl196_2
          replace p196 := eq_true p196
          replace q196 := eq_true q196
          have ea_ := Option.some.inj (hx194_1.symm.trans hx196_1)
          injection ea_ with ea_ en_ ec_
          subst ea_
          subst ec_
          clear en_
          have ea_ := Option.some.inj (hx194_2.symm.trans hx196_2)
          injection ea_ with ea_ en_ ec_
          subst ea_
          subst ec_
          clear en_
          refine start_ (n := 29) (S := fun w' => w'.cell? (ad190.add ((x5_1).toNat * 3)) = some (.int .i64 ((rd_T48 l0 x5_1).f0)) ∧ w'.cell? ⟨(ad190.add ((x5_1).toNat * 3)).block, (ad190.add ((x5_1).toNat * 3)).off + 1, none⟩ = some (.slice A193_1 ((rd_T48 l0 x5_1).f1).length c193_1) ∧ w'.cell? ⟨(ad190.add ((x5_1).toNat * 3)).block, (ad190.add ((x5_1).toNat * 3)).off + 2, none⟩ = some (.slice A193_2 ((rd_T48 l0 x5_1).f2).length c193_2) ∧ w'.cell? (ad191.add ((x5_1).toNat * 3)) = some (.int .i64 ((rd_T48 l1 x5_1).f0)) ∧ w'.cell? ⟨(ad191.add ((x5_1).toNat * 3)).block, (ad191.add ((x5_1).toNat * 3)).off + 1, none⟩ = some (.slice A194_1 ((rd_T48 l1 x5_1).f1).length c194_1) ∧ w'.cell? ⟨(ad191.add ((x5_1).toNat * 3)).block, (ad191.add ((x5_1).toNat * 3)).off + 2, none⟩ = some (.slice A194_2 ((rd_T48 l1 x5_1).f2).length c194_2) ∧ w'.cell? (ad190.add ((x5_1).toNat * 3)) = some (.int .i64 ((rd_T48 l0 x5_1).f0)) ∧ w'.cell? ⟨(ad190.add ((x5_1).toNat * 3)).block, (ad190.add ((x5_1).toNat * 3)).off + 1, none⟩ = some (.slice A193_1 ((rd_T48 l0 x5_1).f1).length c193_1) ∧ w'.cell? ⟨(ad190.add ((x5_1).toNat * 3)).block, (ad190.add ((x5_1).toNat * 3)).off + 2, none⟩ = some (.slice A193_2 ((rd_T48 l0 x5_1).f2).length c193_2) ∧ w'.cell? (ad191.add ((x5_1).toNat * 3)) = some (.int .i64 ((rd_T48 l1 x5_1).f0)) ∧ w'.cell? ⟨(ad191.add ((x5_1).toNat * 3)).block, (ad191.add ((x5_1).toNat * 3)).off + 1, none⟩ = some (.slice A194_1 ((rd_T48 l1 x5_1).f1).length c194_1) ∧ w'.cell? ⟨(ad191.add ((x5_1).toNat * 3)).block, (ad191.add ((x5_1).toNat * 3)).off + 2, none⟩ = some (.slice A194_2 ((rd_T48 l1 x5_1).f2).length c194_2)) (ds := []) L28_13 (by kernel_rfl) rfl rfl ⟨((HB.out.cell (World.block_lt_of_cell? w _ hw193_0)).trans hw193_0), ((HB.out.cell (World.block_lt_of_cell? w _ hw193_1)).trans hw193_1), ((HB.out.cell (World.block_lt_of_cell? w _ hw193_2)).trans hw193_2), ((HB.out.cell (World.block_lt_of_cell? w _ hw194_0)).trans hw194_0), ((HB.out.cell (World.block_lt_of_cell? w _ hw194_1)).trans hw194_1), ((HB.out.cell (World.block_lt_of_cell? w _ hw194_2)).trans hw194_2), ((HB.out.cell (World.block_lt_of_cell? w _ hw195_0)).trans hw195_0), ((HB.out.cell (World.block_lt_of_cell? w _ hw195_1)).trans hw195_1), ((HB.out.cell (World.block_lt_of_cell? w _ hw195_2)).trans hw195_2), ((HB.out.cell (World.block_lt_of_cell? w _ hw196_0)).trans hw196_0), ((HB.out.cell (World.block_lt_of_cell? w _ hw196_1)).trans hw196_1), ((HB.out.cell (World.block_lt_of_cell? w _ hw196_2)).trans hw196_2)⟩ (fun hHeld => ?_); refine with_tabW fullerref10_Same.tab7 fullerref10_Same.bits7 (fun HT_ HW_ => ?_)
          generalize w12.drew = w13 at HB HR193_1 HR193_2 HR194_1 HR194_2 HR195_1 HR195_2 HR196_1 HR196_2 hx193_0 hx193_1 hx193_2 hx194_0 hx194_1 hx194_2 hx195_0 hx195_1 hx195_2 hx196_0 hx196_1 hx196_2 hHeld ⊢
          refine pu_ 0 (some 29) L28_14 HT_ ?_
          refine pu_ 1 (some 30) L28_15 HT_ ?_
          refine pu_ 2 (some 31) L28_16 HT_ ?_
          refine pu_ 3 (some 32) L28_17 HT_ ?_
          refine pu_ 4 (some 33) L28_18 HT_ ?_
          refine pu_ 5 (some 34) L28_19 HT_ ?_
          refine pu_ 6 (some 35) L28_20 HT_ ?_
          refine pu_ 8 (some 37) L28_21 HT_ ?_
          refine pu_ 9 (some 38) L28_22 HT_ ?_
          refine pu_ 10 (some 39) L28_23 HT_ ?_
          refine pu_ 11 (some 40) L28_24 HT_ ?_
          refine ta_ 7 (some 36) L28_25 HT_ HW_ hHeld ?_ (hy := by rintro w' ⟨s0, s1, s2, s3, s4, s5, s6, s7, s8, s9, s10, s11⟩; go_simp; with_reducible rfl)
          refine ta_ 12 (some 41) L28_26 HT_ HW_ hHeld ?_ (hy := by rintro w' ⟨s0, s1, s2, s3, s4, s5, s6, s7, s8, s9, s10, s11⟩; go_simp; with_reducible rfl)
          refine pu_ 13 (some 42) L28_27 HT_ ?_
          refine pu_ 14 (some 43) L28_28 HT_ ?_
          refine pu_ 15 (some 44) L28_29 HT_ ?_
          refine pu_ 16 (some 45) L28_30 HT_ ?_
          refine pu_ 17 (some 46) L28_31 HT_ ?_
          refine pu_ 18 (some 47) L28_32 HT_ ?_
          refine pu_ 19 (some 48) L28_33 HT_ ?_
          refine pu_ 21 (some 50) L28_34 HT_ ?_
          refine pu_ 22 (some 51) L28_35 HT_ ?_
          refine pu_ 23 (some 52) L28_36 HT_ ?_
          refine pu_ 24 (some 53) L28_37 HT_ ?_
          refine ta_ 20 (some 49) L28_38 HT_ HW_ hHeld ?_ (hy := by rintro w' ⟨s0, s1, s2, s3, s4, s5, s6, s7, s8, s9, s10, s11⟩; go_simp; with_reducible rfl)
          refine ta_ 25 (some 54) L28_39 HT_ HW_ hHeld ?_ (hy := by rintro w' ⟨s0, s1, s2, s3, s4, s5, s6, s7, s8, s9, s10, s11⟩; go_simp; with_reducible rfl)
          refine one_ (i := 26) (N := some 55) L28_40 rfl rfl (one_of HT_.out (by kernel_rfl)) (by decide) (fun K hK => ?_)
          refine goes_ Try.func52 (by kernel_rfl) rfl #[.slice A193_2 ((rd_T48 l0 x5_1).f2).length c193_2, .slice A194_2 ((rd_T48 l1 x5_1).f2).length c194_2] (by rfl) rfl rfl (by (try simp only [List.map_toArray, List.map_cons, List.map_nil]); first | done | rfl | (simp only [List.length_drop, List.length_take]; rfl)) ?_
          with_reducible refine (fullerref02_Same.calls k1 _ _ ((rd_T48 l0 x5_1).f2) _ _ ((rd_T48 l1 x5_1).f2) true _ ?side1 ?side2 ?side3 ?side4 A10.out).mono ?_
          (case side1 => exact mvC_ ((Kd.C_below HR195_2.out HB.out)))
          (case side2 => exact HC195_2.out)
          (case side3 => exact mvC_ ((Kd.C_below HR196_2.out HB.out)))
          (case side4 => exact HC196_2.out)
          rintro e w' ⟨rfl, ⟨nd, rfl⟩⟩
          refine ⟨_, rfl, ?_⟩
          refine hK.out _ _ ⟨((HB.out.cell (World.block_lt_of_cell? w _ hw193_0)).trans hw193_0), ((HB.out.cell (World.block_lt_of_cell? w _ hw193_1)).trans hw193_1), ((HB.out.cell (World.block_lt_of_cell? w _ hw193_2)).trans hw193_2), ((HB.out.cell (World.block_lt_of_cell? w _ hw194_0)).trans hw194_0), ((HB.out.cell (World.block_lt_of_cell? w _ hw194_1)).trans hw194_1), ((HB.out.cell (World.block_lt_of_cell? w _ hw194_2)).trans hw194_2), ((HB.out.cell (World.block_lt_of_cell? w _ hw195_0)).trans hw195_0), ((HB.out.cell (World.block_lt_of_cell? w _ hw195_1)).trans hw195_1), ((HB.out.cell (World.block_lt_of_cell? w _ hw195_2)).trans hw195_2), ((HB.out.cell (World.block_lt_of_cell? w _ hw196_0)).trans hw196_0), ((HB.out.cell (World.block_lt_of_cell? w _ hw196_1)).trans hw196_1), ((HB.out.cell (World.block_lt_of_cell? w _ hw196_2)).trans hw196_2)⟩ (fun hHeld => ?_)
          clear hK K
          refine norm_ (a' := ?_) ?_ ?_
          rotate_left
          ·show Act.put _ (some 55) _ = _
           simp only [Act.put, sA_, sB_, sC_, i64_w, i32_w]
           rfl
          refine pu_ 27 (some 56) L28_41 HT_ ?_
          refine pu_ 28 (some 57) L28_42 HT_ ?_
          refine done_ (done_of HT_.out (by kernel_rfl)) ?_
          try go_wp2
          go_roundg k1
          case measure => have := HK1.out; omega
          case rel => exact ⟨(wrap64 (x5_1 + 1)), (by first | rfl | (simp; done) | (simp [*]; done)), H', ⟨by have := HK1.out; omega⟩, ⟨bq0_ HB.out⟩⟩
         ·replace c11 := Bool.eq_false_iff.mpr c11
          subst c11
          have H1 : (some false) = some r := by rw [if_neg (show ¬ (false = true) by decide)] at H; exact H
          clear H
          have H := H1
          clear H1
          obtain rfl := Option.some.inj H
          try go_wp2
          replace HB := Aside0.mk (below_drew1 HB.out)
          have p190 : 0 ≤ (x5_1 : Int) := od_
          have q190 : x5_1 < (l0.length : Int) := od_
          obtain ⟨ad190, A190_1, c190_1, A190_2, c190_2, e190, hx190_0, hx190_1, hx190_2, hl190_1, hi190_1, hl190_2, hi190_2⟩ := at_T48 HR0.out x5_1 p190 q190
          have hw190_2 := hx190_2
          have hw190_1 := hx190_1
          have hw190_0 := hx190_0
          cases e190
          replace hx190_0 := hb_ HB hx190_0
          replace hx190_1 := hb_ HB hx190_1
          replace hx190_2 := hb_ HB hx190_2
          have HR190_1 := Aside0.mk hi190_1
          have HC190_1 := Aside0.mk hl190_1
          clear hi190_1 hl190_1
          have HR190_2 := Aside0.mk hi190_2
          have HC190_2 := Aside0.mk hl190_2
          clear hi190_2 hl190_2
          replace p190 := eq_true p190
          replace q190 := eq_true q190
          have p191 : 0 ≤ (x5_1 : Int) := od_
          have q191 : x5_1 < (l1.length : Int) := od_
          obtain ⟨ad191, A191_1, c191_1, A191_2, c191_2, e191, hx191_0, hx191_1, hx191_2, hl191_1, hi191_1, hl191_2, hi191_2⟩ := at_T48 HR1.out x5_1 p191 q191
          have hw191_2 := hx191_2
          have hw191_1 := hx191_1
          have hw191_0 := hx191_0
          cases e191
          replace hx191_0 := hb_ HB hx191_0
          replace hx191_1 := hb_ HB hx191_1
          replace hx191_2 := hb_ HB hx191_2
          have HR191_1 := Aside0.mk hi191_1
          have HC191_1 := Aside0.mk hl191_1
          clear hi191_1 hl191_1
          have HR191_2 := Aside0.mk hi191_2
          have HC191_2 := Aside0.mk hl191_2
          clear hi191_2 hl191_2
          replace p191 := eq_true p191
          replace q191 := eq_true q191
          refine start_ (n := 12) (S := fun w' => w'.cell? (ad190.add ((x5_1).toNat * 3)) = some (.int .i64 ((rd_T48 l0 x5_1).f0)) ∧ w'.cell? ⟨(ad190.add ((x5_1).toNat * 3)).block, (ad190.add ((x5_1).toNat * 3)).off + 1, none⟩ = some (.slice A190_1 ((rd_T48 l0 x5_1).f1).length c190_1) ∧ w'.cell? ⟨(ad190.add ((x5_1).toNat * 3)).block, (ad190.add ((x5_1).toNat * 3)).off + 2, none⟩ = some (.slice A190_2 ((rd_T48 l0 x5_1).f2).length c190_2) ∧ w'.cell? (ad191.add ((x5_1).toNat * 3)) = some (.int .i64 ((rd_T48 l1 x5_1).f0)) ∧ w'.cell? ⟨(ad191.add ((x5_1).toNat * 3)).block, (ad191.add ((x5_1).toNat * 3)).off + 1, none⟩ = some (.slice A191_1 ((rd_T48 l1 x5_1).f1).length c191_1) ∧ w'.cell? ⟨(ad191.add ((x5_1).toNat * 3)).block, (ad191.add ((x5_1).toNat * 3)).off + 2, none⟩ = some (.slice A191_2 ((rd_T48 l1 x5_1).f2).length c191_2)) (ds := []) L28_0 (by kernel_rfl) rfl rfl ⟨((HB.out.cell (World.block_lt_of_cell? w _ hw190_0)).trans hw190_0), ((HB.out.cell (World.block_lt_of_cell? w _ hw190_1)).trans hw190_1), ((HB.out.cell (World.block_lt_of_cell? w _ hw190_2)).trans hw190_2), ((HB.out.cell (World.block_lt_of_cell? w _ hw191_0)).trans hw191_0), ((HB.out.cell (World.block_lt_of_cell? w _ hw191_1)).trans hw191_1), ((HB.out.cell (World.block_lt_of_cell? w _ hw191_2)).trans hw191_2)⟩ (fun hHeld => ?_); refine with_tabW fullerref10_Same.tab6 fullerref10_Same.bits6 (fun HT_ HW_ => ?_)
          generalize wr.drew = w14 at HB HR190_1 HR190_2 HR191_1 HR191_2 hx190_0 hx190_1 hx190_2 hx191_0 hx191_1 hx191_2 hHeld ⊢
          refine pu_ 0 (some 18) L28_1 HT_ ?_
          refine pu_ 1 (some 19) L28_2 HT_ ?_
          refine pu_ 2 (some 20) L28_3 HT_ ?_
          refine pu_ 3 (some 21) L28_4 HT_ ?_
          refine pu_ 5 (some 23) L28_5 HT_ ?_
          refine pu_ 6 (some 24) L28_6 HT_ ?_
          refine pu_ 7 (some 25) L28_7 HT_ ?_
          refine pu_ 8 (some 26) L28_8 HT_ ?_
          refine ta_ 4 (some 22) L28_9 HT_ HW_ hHeld ?_ (hy := by rintro w' ⟨s0, s1, s2, s3, s4, s5⟩; go_simp; with_reducible rfl)
          refine ta_ 9 (some 27) L28_10 HT_ HW_ hHeld ?_ (hy := by rintro w' ⟨s0, s1, s2, s3, s4, s5⟩; go_simp; with_reducible rfl)
          refine one_ (i := 10) (N := some 28) L28_11 rfl rfl (one_of HT_.out (by kernel_rfl)) (by decide) (fun K hK => ?_)
          refine goes_ Try.func52 (by kernel_rfl) rfl #[.slice A190_1 ((rd_T48 l0 x5_1).f1).length c190_1, .slice A191_1 ((rd_T48 l1 x5_1).f1).length c191_1] (by rfl) rfl rfl (by (try simp only [List.map_toArray, List.map_cons, List.map_nil]); first | done | rfl | (simp only [List.length_drop, List.length_take]; rfl)) ?_
          with_reducible refine (fullerref02_Same.calls k1 _ _ ((rd_T48 l0 x5_1).f1) _ _ ((rd_T48 l1 x5_1).f1) true _ ?side1 ?side2 ?side3 ?side4 A7.out).mono ?_
          (case side1 => exact mvC_ ((Kd.C_below HR190_1.out HB.out)))
          (case side2 => exact HC190_1.out)
          (case side3 => exact mvC_ ((Kd.C_below HR191_1.out HB.out)))
          (case side4 => exact HC191_1.out)
          rintro e w' ⟨rfl, ⟨nd, rfl⟩⟩
          refine ⟨_, rfl, ?_⟩
          refine hK.out _ _ ⟨((HB.out.cell (World.block_lt_of_cell? w _ hw190_0)).trans hw190_0), ((HB.out.cell (World.block_lt_of_cell? w _ hw190_1)).trans hw190_1), ((HB.out.cell (World.block_lt_of_cell? w _ hw190_2)).trans hw190_2), ((HB.out.cell (World.block_lt_of_cell? w _ hw191_0)).trans hw191_0), ((HB.out.cell (World.block_lt_of_cell? w _ hw191_1)).trans hw191_1), ((HB.out.cell (World.block_lt_of_cell? w _ hw191_2)).trans hw191_2)⟩ (fun hHeld => ?_)
          clear hK K
          refine norm_ (a' := ?_) ?_ ?_
          rotate_left
          ·show Act.put _ (some 28) _ = _
           simp only [Act.put, sA_, sB_, sC_, i64_w, i32_w]
           rfl
          refine pu_ 11 (some 6) L28_12 HT_ ?_
          refine done_ (done_of HT_.out (by kernel_rfl)) ?_
          try go_wp2
          (try (rw [drewN_self w14]; generalize hq_ : World.drewN w14 _ = w14; have n0_ : Aside0 (Below w.heap.size w w14) := ⟨by rw [← hq_]; exact (bq0_ HB.out)⟩; clear HB hq_; have HB := n0_; clear n0_))
          replace HB := Aside0.mk (below_drew1 HB.out)
          have p193 : 0 ≤ (x5_1 : Int) := od_
          have q193 : x5_1 < (l0.length : Int) := od_
          obtain ⟨ad193, A193_1, c193_1, A193_2, c193_2, e193, hx193_0, hx193_1, hx193_2, hl193_1, hi193_1, hl193_2, hi193_2⟩ := at_T48 HR0.out x5_1 p193 q193
          have hw193_2 := hx193_2
          have hw193_1 := hx193_1
          have hw193_0 := hx193_0
          obtain rfl : ad190 = ad193 := (by injection e193)
          replace hx193_0 := hb_ HB hx193_0
          replace hx193_1 := hb_ HB hx193_1
          replace hx193_2 := hb_ HB hx193_2
          have HR193_1 := Aside0.mk hi193_1
          have HC193_1 := Aside0.mk hl193_1
          clear hi193_1 hl193_1
          have HR193_2 := Aside0.mk hi193_2
          have HC193_2 := Aside0.mk hl193_2
          clear hi193_2 hl193_2
          replace p193 := eq_true p193
          replace q193 := eq_true q193
          have p194 : 0 ≤ (x5_1 : Int) := od_
          have q194 : x5_1 < (l1.length : Int) := od_
          obtain ⟨ad194, A194_1, c194_1, A194_2, c194_2, e194, hx194_0, hx194_1, hx194_2, hl194_1, hi194_1, hl194_2, hi194_2⟩ := at_T48 HR1.out x5_1 p194 q194
          have hw194_2 := hx194_2
          have hw194_1 := hx194_1
          have hw194_0 := hx194_0
          obtain rfl : ad191 = ad194 := (by injection e194)
          replace hx194_0 := hb_ HB hx194_0
          replace hx194_1 := hb_ HB hx194_1
          replace hx194_2 := hb_ HB hx194_2
          have HR194_1 := Aside0.mk hi194_1
          have HC194_1 := Aside0.mk hl194_1
          clear hi194_1 hl194_1
          have HR194_2 := Aside0.mk hi194_2
          have HC194_2 := Aside0.mk hl194_2
          clear hi194_2 hl194_2
          replace p194 := eq_true p194
          replace q194 := eq_true q194
          have p195 : 0 ≤ (x5_1 : Int) := od_
          have q195 : x5_1 < (l0.length : Int) := od_
          obtain ⟨ad195, A195_1, c195_1, A195_2, c195_2, e195, hx195_0, hx195_1, hx195_2, hl195_1, hi195_1, hl195_2, hi195_2⟩ := at_T48 HR0.out x5_1 p195 q195
          have hw195_2 := hx195_2
          have hw195_1 := hx195_1
          have hw195_0 := hx195_0
          obtain rfl : ad190 = ad195 := (by injection e195)
          replace hx195_0 := hb_ HB hx195_0
          replace hx195_1 := hb_ HB hx195_1
          replace hx195_2 := hb_ HB hx195_2
          have HR195_1 := Aside0.mk hi195_1
          have HC195_1 := Aside0.mk hl195_1
          clear hi195_1 hl195_1
          have HR195_2 := Aside0.mk hi195_2
          have HC195_2 := Aside0.mk hl195_2
          clear hi195_2 hl195_2
          replace p195 := eq_true p195
          replace q195 := eq_true q195
          have ea_ := Option.some.inj (hx193_1.symm.trans hx195_1)
          injection ea_ with ea_ en_ ec_
          subst ea_
          subst ec_
          clear en_
          have ea_ := Option.some.inj (hx193_2.symm.trans hx195_2)
          injection ea_ with ea_ en_ ec_
          subst ea_
          subst ec_
          clear en_
          have p196 : 0 ≤ (x5_1 : Int) := od_
          have q196 : x5_1 < (l1.length : Int) := od_
          obtain ⟨ad196, A196_1, c196_1, A196_2, c196_2, e196, hx196_0, hx196_1, hx196_2, hl196_1, hi196_1, hl196_2, hi196_2⟩ := at_T48 HR1.out x5_1 p196 q196
          have hw196_2 := hx196_2
          have hw196_1 := hx196_1
          have hw196_0 := hx196_0
          obtain rfl : ad191 = ad196 := (by injection e196)
          replace hx196_0 := hb_ HB hx196_0
          replace hx196_1 := hb_ HB hx196_1
          replace hx196_2 := hb_ HB hx196_2
          have HR196_1 := Aside0.mk hi196_1
          have HC196_1 := Aside0.mk hl196_1
          clear hi196_1 hl196_1
          have HR196_2 := Aside0.mk hi196_2
          have HC196_2 := Aside0.mk hl196_2
          clear hi196_2 hl196_2
          replace p196 := eq_true p196
          replace q196 := eq_true q196
          have ea_ := Option.some.inj (hx194_1.symm.trans hx196_1)
          injection ea_ with ea_ en_ ec_
          subst ea_
          subst ec_
          clear en_
          have ea_ := Option.some.inj (hx194_2.symm.trans hx196_2)
          injection ea_ with ea_ en_ ec_
          subst ea_
          subst ec_
          clear en_
          refine start_ (n := 29) (S := fun w' => w'.cell? (ad190.add ((x5_1).toNat * 3)) = some (.int .i64 ((rd_T48 l0 x5_1).f0)) ∧ w'.cell? ⟨(ad190.add ((x5_1).toNat * 3)).block, (ad190.add ((x5_1).toNat * 3)).off + 1, none⟩ = some (.slice A193_1 ((rd_T48 l0 x5_1).f1).length c193_1) ∧ w'.cell? ⟨(ad190.add ((x5_1).toNat * 3)).block, (ad190.add ((x5_1).toNat * 3)).off + 2, none⟩ = some (.slice A193_2 ((rd_T48 l0 x5_1).f2).length c193_2) ∧ w'.cell? (ad191.add ((x5_1).toNat * 3)) = some (.int .i64 ((rd_T48 l1 x5_1).f0)) ∧ w'.cell? ⟨(ad191.add ((x5_1).toNat * 3)).block, (ad191.add ((x5_1).toNat * 3)).off + 1, none⟩ = some (.slice A194_1 ((rd_T48 l1 x5_1).f1).length c194_1) ∧ w'.cell? ⟨(ad191.add ((x5_1).toNat * 3)).block, (ad191.add ((x5_1).toNat * 3)).off + 2, none⟩ = some (.slice A194_2 ((rd_T48 l1 x5_1).f2).length c194_2) ∧ w'.cell? (ad190.add ((x5_1).toNat * 3)) = some (.int .i64 ((rd_T48 l0 x5_1).f0)) ∧ w'.cell? ⟨(ad190.add ((x5_1).toNat * 3)).block, (ad190.add ((x5_1).toNat * 3)).off + 1, none⟩ = some (.slice A193_1 ((rd_T48 l0 x5_1).f1).length c193_1) ∧ w'.cell? ⟨(ad190.add ((x5_1).toNat * 3)).block, (ad190.add ((x5_1).toNat * 3)).off + 2, none⟩ = some (.slice A193_2 ((rd_T48 l0 x5_1).f2).length c193_2) ∧ w'.cell? (ad191.add ((x5_1).toNat * 3)) = some (.int .i64 ((rd_T48 l1 x5_1).f0)) ∧ w'.cell? ⟨(ad191.add ((x5_1).toNat * 3)).block, (ad191.add ((x5_1).toNat * 3)).off + 1, none⟩ = some (.slice A194_1 ((rd_T48 l1 x5_1).f1).length c194_1) ∧ w'.cell? ⟨(ad191.add ((x5_1).toNat * 3)).block, (ad191.add ((x5_1).toNat * 3)).off + 2, none⟩ = some (.slice A194_2 ((rd_T48 l1 x5_1).f2).length c194_2)) (ds := []) L28_13 (by kernel_rfl) rfl rfl ⟨((HB.out.cell (World.block_lt_of_cell? w _ hw193_0)).trans hw193_0), ((HB.out.cell (World.block_lt_of_cell? w _ hw193_1)).trans hw193_1), ((HB.out.cell (World.block_lt_of_cell? w _ hw193_2)).trans hw193_2), ((HB.out.cell (World.block_lt_of_cell? w _ hw194_0)).trans hw194_0), ((HB.out.cell (World.block_lt_of_cell? w _ hw194_1)).trans hw194_1), ((HB.out.cell (World.block_lt_of_cell? w _ hw194_2)).trans hw194_2), ((HB.out.cell (World.block_lt_of_cell? w _ hw195_0)).trans hw195_0), ((HB.out.cell (World.block_lt_of_cell? w _ hw195_1)).trans hw195_1), ((HB.out.cell (World.block_lt_of_cell? w _ hw195_2)).trans hw195_2), ((HB.out.cell (World.block_lt_of_cell? w _ hw196_0)).trans hw196_0), ((HB.out.cell (World.block_lt_of_cell? w _ hw196_1)).trans hw196_1), ((HB.out.cell (World.block_lt_of_cell? w _ hw196_2)).trans hw196_2)⟩ (fun hHeld => ?_); refine with_tabW fullerref10_Same.tab7 fullerref10_Same.bits7 (fun HT_ HW_ => ?_)
          generalize w14.drew = w15 at HB HR193_1 HR193_2 HR194_1 HR194_2 HR195_1 HR195_2 HR196_1 HR196_2 hx193_0 hx193_1 hx193_2 hx194_0 hx194_1 hx194_2 hx195_0 hx195_1 hx195_2 hx196_0 hx196_1 hx196_2 hHeld ⊢
          refine pu_ 0 (some 29) L28_14 HT_ ?_
          refine pu_ 1 (some 30) L28_15 HT_ ?_
          refine pu_ 2 (some 31) L28_16 HT_ ?_
          refine pu_ 3 (some 32) L28_17 HT_ ?_
          refine pu_ 4 (some 33) L28_18 HT_ ?_
          refine pu_ 5 (some 34) L28_19 HT_ ?_
          refine pu_ 6 (some 35) L28_20 HT_ ?_
          refine pu_ 8 (some 37) L28_21 HT_ ?_
          refine pu_ 9 (some 38) L28_22 HT_ ?_
          refine pu_ 10 (some 39) L28_23 HT_ ?_
          refine pu_ 11 (some 40) L28_24 HT_ ?_
          refine ta_ 7 (some 36) L28_25 HT_ HW_ hHeld ?_ (hy := by rintro w' ⟨s0, s1, s2, s3, s4, s5, s6, s7, s8, s9, s10, s11⟩; go_simp; with_reducible rfl)
          refine ta_ 12 (some 41) L28_26 HT_ HW_ hHeld ?_ (hy := by rintro w' ⟨s0, s1, s2, s3, s4, s5, s6, s7, s8, s9, s10, s11⟩; go_simp; with_reducible rfl)
          refine pu_ 13 (some 42) L28_27 HT_ ?_
          refine pu_ 14 (some 43) L28_28 HT_ ?_
          refine pu_ 15 (some 44) L28_29 HT_ ?_
          refine pu_ 16 (some 45) L28_30 HT_ ?_
          refine pu_ 17 (some 46) L28_31 HT_ ?_
          refine pu_ 18 (some 47) L28_32 HT_ ?_
          refine pu_ 19 (some 48) L28_33 HT_ ?_
          refine pu_ 21 (some 50) L28_34 HT_ ?_
          refine pu_ 22 (some 51) L28_35 HT_ ?_
          refine pu_ 23 (some 52) L28_36 HT_ ?_
          refine pu_ 24 (some 53) L28_37 HT_ ?_
          refine ta_ 20 (some 49) L28_38 HT_ HW_ hHeld ?_ (hy := by rintro w' ⟨s0, s1, s2, s3, s4, s5, s6, s7, s8, s9, s10, s11⟩; go_simp; with_reducible rfl)
          refine ta_ 25 (some 54) L28_39 HT_ HW_ hHeld ?_ (hy := by rintro w' ⟨s0, s1, s2, s3, s4, s5, s6, s7, s8, s9, s10, s11⟩; go_simp; with_reducible rfl)
          refine one_ (i := 26) (N := some 55) L28_40 rfl rfl (one_of HT_.out (by kernel_rfl)) (by decide) (fun K hK => ?_)
          refine goes_ Try.func52 (by kernel_rfl) rfl #[.slice A193_2 ((rd_T48 l0 x5_1).f2).length c193_2, .slice A194_2 ((rd_T48 l1 x5_1).f2).length c194_2] (by rfl) rfl rfl (by (try simp only [List.map_toArray, List.map_cons, List.map_nil]); first | done | rfl | (simp only [List.length_drop, List.length_take]; rfl)) ?_
          with_reducible refine (fullerref02_Same.calls k1 _ _ ((rd_T48 l0 x5_1).f2) _ _ ((rd_T48 l1 x5_1).f2) false _ ?side1 ?side2 ?side3 ?side4 A10.out).mono ?_
          (case side1 => exact mvC_ ((Kd.C_below HR195_2.out HB.out)))
          (case side2 => exact HC195_2.out)
          (case side3 => exact mvC_ ((Kd.C_below HR196_2.out HB.out)))
          (case side4 => exact HC196_2.out)
          rintro e w' ⟨rfl, ⟨nd, rfl⟩⟩
          refine ⟨_, rfl, ?_⟩
          refine hK.out _ _ ⟨((HB.out.cell (World.block_lt_of_cell? w _ hw193_0)).trans hw193_0), ((HB.out.cell (World.block_lt_of_cell? w _ hw193_1)).trans hw193_1), ((HB.out.cell (World.block_lt_of_cell? w _ hw193_2)).trans hw193_2), ((HB.out.cell (World.block_lt_of_cell? w _ hw194_0)).trans hw194_0), ((HB.out.cell (World.block_lt_of_cell? w _ hw194_1)).trans hw194_1), ((HB.out.cell (World.block_lt_of_cell? w _ hw194_2)).trans hw194_2), ((HB.out.cell (World.block_lt_of_cell? w _ hw195_0)).trans hw195_0), ((HB.out.cell (World.block_lt_of_cell? w _ hw195_1)).trans hw195_1), ((HB.out.cell (World.block_lt_of_cell? w _ hw195_2)).trans hw195_2), ((HB.out.cell (World.block_lt_of_cell? w _ hw196_0)).trans hw196_0), ((HB.out.cell (World.block_lt_of_cell? w _ hw196_1)).trans hw196_1), ((HB.out.cell (World.block_lt_of_cell? w _ hw196_2)).trans hw196_2)⟩ (fun hHeld => ?_)
          clear hK K
          refine norm_ (a' := ?_) ?_ ?_
          rotate_left
          ·show Act.put _ (some 55) _ = _
           simp only [Act.put, sA_, sB_, sC_, i64_w, i32_w]
           rfl
          refine pu_ 27 (some 56) L28_41 HT_ ?_
          refine pu_ 28 (some 57) L28_42 HT_ ?_
          refine done_ (done_of HT_.out (by kernel_rfl)) ?_
          try go_wp2
          go_ret
          exact ⟨by first | rfl | (simp <;> rfl) | (simp [*] <;> rfl), bq0_ HB.out⟩
        ·rw [if_neg c9] at H
         have c9b0 : (((rd_T48 l0 x5_1).f0) == ((rd_T48 l1 x5_1).f0)) = false := beq_eq_false_iff_ne.mpr c9
         have c9b1 : (((rd_T48 l0 x5_1).f0) != ((rd_T48 l1 x5_1).f0)) = true := bne_iff_ne.mpr c9
         obtain rfl := Option.some.inj H
         try go_wp2
         replace HB := Aside0.mk (below_drew1 HB.out)
         have p190 : 0 ≤ (x5_1 : Int) := od_
         have q190 : x5_1 < (l0.length : Int) := od_
         obtain ⟨ad190, A190_1, c190_1, A190_2, c190_2, e190, hx190_0, hx190_1, hx190_2, hl190_1, hi190_1, hl190_2, hi190_2⟩ := at_T48 HR0.out x5_1 p190 q190
         have hw190_2 := hx190_2
         have hw190_1 := hx190_1
         have hw190_0 := hx190_0
         cases e190
         replace hx190_0 := hb_ HB hx190_0
         replace hx190_1 := hb_ HB hx190_1
         replace hx190_2 := hb_ HB hx190_2
         have HR190_1 := Aside0.mk hi190_1
         have HC190_1 := Aside0.mk hl190_1
         clear hi190_1 hl190_1
         have HR190_2 := Aside0.mk hi190_2
         have HC190_2 := Aside0.mk hl190_2
         clear hi190_2 hl190_2
         replace p190 := eq_true p190
         replace q190 := eq_true q190
         have p191 : 0 ≤ (x5_1 : Int) := od_
         have q191 : x5_1 < (l1.length : Int) := od_
         obtain ⟨ad191, A191_1, c191_1, A191_2, c191_2, e191, hx191_0, hx191_1, hx191_2, hl191_1, hi191_1, hl191_2, hi191_2⟩ := at_T48 HR1.out x5_1 p191 q191
         have hw191_2 := hx191_2
         have hw191_1 := hx191_1
         have hw191_0 := hx191_0
         cases e191
         replace hx191_0 := hb_ HB hx191_0
         replace hx191_1 := hb_ HB hx191_1
         replace hx191_2 := hb_ HB hx191_2
         have HR191_1 := Aside0.mk hi191_1
         have HC191_1 := Aside0.mk hl191_1
         clear hi191_1 hl191_1
         have HR191_2 := Aside0.mk hi191_2
         have HC191_2 := Aside0.mk hl191_2
         clear hi191_2 hl191_2
         replace p191 := eq_true p191
         replace q191 := eq_true q191
         refine start_ (n := 12) (S := fun w' => w'.cell? (ad190.add ((x5_1).toNat * 3)) = some (.int .i64 ((rd_T48 l0 x5_1).f0)) ∧ w'.cell? ⟨(ad190.add ((x5_1).toNat * 3)).block, (ad190.add ((x5_1).toNat * 3)).off + 1, none⟩ = some (.slice A190_1 ((rd_T48 l0 x5_1).f1).length c190_1) ∧ w'.cell? ⟨(ad190.add ((x5_1).toNat * 3)).block, (ad190.add ((x5_1).toNat * 3)).off + 2, none⟩ = some (.slice A190_2 ((rd_T48 l0 x5_1).f2).length c190_2) ∧ w'.cell? (ad191.add ((x5_1).toNat * 3)) = some (.int .i64 ((rd_T48 l1 x5_1).f0)) ∧ w'.cell? ⟨(ad191.add ((x5_1).toNat * 3)).block, (ad191.add ((x5_1).toNat * 3)).off + 1, none⟩ = some (.slice A191_1 ((rd_T48 l1 x5_1).f1).length c191_1) ∧ w'.cell? ⟨(ad191.add ((x5_1).toNat * 3)).block, (ad191.add ((x5_1).toNat * 3)).off + 2, none⟩ = some (.slice A191_2 ((rd_T48 l1 x5_1).f2).length c191_2)) (ds := []) L28_0 (by kernel_rfl) rfl rfl ⟨((HB.out.cell (World.block_lt_of_cell? w _ hw190_0)).trans hw190_0), ((HB.out.cell (World.block_lt_of_cell? w _ hw190_1)).trans hw190_1), ((HB.out.cell (World.block_lt_of_cell? w _ hw190_2)).trans hw190_2), ((HB.out.cell (World.block_lt_of_cell? w _ hw191_0)).trans hw191_0), ((HB.out.cell (World.block_lt_of_cell? w _ hw191_1)).trans hw191_1), ((HB.out.cell (World.block_lt_of_cell? w _ hw191_2)).trans hw191_2)⟩ (fun hHeld => ?_); refine with_tabW fullerref10_Same.tab6 fullerref10_Same.bits6 (fun HT_ HW_ => ?_)
         generalize wr.drew = w16 at HB HR190_1 HR190_2 HR191_1 HR191_2 hx190_0 hx190_1 hx190_2 hx191_0 hx191_1 hx191_2 hHeld ⊢
         refine pu_ 0 (some 18) L28_1 HT_ ?_
         refine pu_ 1 (some 19) L28_2 HT_ ?_
         refine pu_ 2 (some 20) L28_3 HT_ ?_
         refine pu_ 3 (some 21) L28_4 HT_ ?_
         refine pu_ 5 (some 23) L28_5 HT_ ?_
         refine pu_ 6 (some 24) L28_6 HT_ ?_
         refine pu_ 7 (some 25) L28_7 HT_ ?_
         refine pu_ 8 (some 26) L28_8 HT_ ?_
         refine ta_ 4 (some 22) L28_9 HT_ HW_ hHeld ?_ (hy := by rintro w' ⟨s0, s1, s2, s3, s4, s5⟩; go_simp; with_reducible rfl)
         refine ta_ 9 (some 27) L28_10 HT_ HW_ hHeld ?_ (hy := by rintro w' ⟨s0, s1, s2, s3, s4, s5⟩; go_simp; with_reducible rfl)
         refine one_ (i := 10) (N := some 28) L28_11 rfl rfl (one_of HT_.out (by kernel_rfl)) (by decide) (fun K hK => ?_)
         refine goes_ Try.func52 (by kernel_rfl) rfl #[.slice A190_1 ((rd_T48 l0 x5_1).f1).length c190_1, .slice A191_1 ((rd_T48 l1 x5_1).f1).length c191_1] (by rfl) rfl rfl (by (try simp only [List.map_toArray, List.map_cons, List.map_nil]); first | done | rfl | (simp only [List.length_drop, List.length_take]; rfl)) ?_
         with_reducible refine (fullerref02_Same.calls k1 _ _ ((rd_T48 l0 x5_1).f1) _ _ ((rd_T48 l1 x5_1).f1) true _ ?side1 ?side2 ?side3 ?side4 A7.out).mono ?_
         (case side1 => exact mvC_ ((Kd.C_below HR190_1.out HB.out)))
         (case side2 => exact HC190_1.out)
         (case side3 => exact mvC_ ((Kd.C_below HR191_1.out HB.out)))
         (case side4 => exact HC191_1.out)
         rintro e w' ⟨rfl, ⟨nd, rfl⟩⟩
         refine ⟨_, rfl, ?_⟩
         refine hK.out _ _ ⟨((HB.out.cell (World.block_lt_of_cell? w _ hw190_0)).trans hw190_0), ((HB.out.cell (World.block_lt_of_cell? w _ hw190_1)).trans hw190_1), ((HB.out.cell (World.block_lt_of_cell? w _ hw190_2)).trans hw190_2), ((HB.out.cell (World.block_lt_of_cell? w _ hw191_0)).trans hw191_0), ((HB.out.cell (World.block_lt_of_cell? w _ hw191_1)).trans hw191_1), ((HB.out.cell (World.block_lt_of_cell? w _ hw191_2)).trans hw191_2)⟩ (fun hHeld => ?_)
         clear hK K
         refine norm_ (a' := ?_) ?_ ?_
         rotate_left
         ·show Act.put _ (some 28) _ = _
          simp only [Act.put, sA_, sB_, sC_, i64_w, i32_w]
          rfl
         refine pu_ 11 (some 6) L28_12 HT_ ?_
         refine done_ (done_of HT_.out (by kernel_rfl)) ?_
         try go_wp2
         (try (rw [drewN_self w16]; generalize hq_ : World.drewN w16 _ = w16; have n0_ : Aside0 (Below w.heap.size w w16) := ⟨by rw [← hq_]; exact (bq0_ HB.out)⟩; clear HB hq_; have HB := n0_; clear n0_))
         replace HB := Aside0.mk (below_drew1 HB.out)
         have p193 : 0 ≤ (x5_1 : Int) := od_
         have q193 : x5_1 < (l0.length : Int) := od_
         obtain ⟨ad193, A193_1, c193_1, A193_2, c193_2, e193, hx193_0, hx193_1, hx193_2, hl193_1, hi193_1, hl193_2, hi193_2⟩ := at_T48 HR0.out x5_1 p193 q193
         have hw193_2 := hx193_2
         have hw193_1 := hx193_1
         have hw193_0 := hx193_0
         obtain rfl : ad190 = ad193 := (by injection e193)
         replace hx193_0 := hb_ HB hx193_0
         replace hx193_1 := hb_ HB hx193_1
         replace hx193_2 := hb_ HB hx193_2
         have HR193_1 := Aside0.mk hi193_1
         have HC193_1 := Aside0.mk hl193_1
         clear hi193_1 hl193_1
         have HR193_2 := Aside0.mk hi193_2
         have HC193_2 := Aside0.mk hl193_2
         clear hi193_2 hl193_2
         replace p193 := eq_true p193
         replace q193 := eq_true q193
         have p194 : 0 ≤ (x5_1 : Int) := od_
         have q194 : x5_1 < (l1.length : Int) := od_
         obtain ⟨ad194, A194_1, c194_1, A194_2, c194_2, e194, hx194_0, hx194_1, hx194_2, hl194_1, hi194_1, hl194_2, hi194_2⟩ := at_T48 HR1.out x5_1 p194 q194
         have hw194_2 := hx194_2
         have hw194_1 := hx194_1
         have hw194_0 := hx194_0
         obtain rfl : ad191 = ad194 := (by injection e194)
         replace hx194_0 := hb_ HB hx194_0
         replace hx194_1 := hb_ HB hx194_1
         replace hx194_2 := hb_ HB hx194_2
         have HR194_1 := Aside0.mk hi194_1
         have HC194_1 := Aside0.mk hl194_1
         clear hi194_1 hl194_1
         have HR194_2 := Aside0.mk hi194_2
         have HC194_2 := Aside0.mk hl194_2
         clear hi194_2 hl194_2
         replace p194 := eq_true p194
         replace q194 := eq_true q194
         refine start_ (n := 29) (S := fun w' => w'.cell? (ad190.add ((x5_1).toNat * 3)) = some (.int .i64 ((rd_T48 l0 x5_1).f0)) ∧ w'.cell? ⟨(ad190.add ((x5_1).toNat * 3)).block, (ad190.add ((x5_1).toNat * 3)).off + 1, none⟩ = some (.slice A193_1 ((rd_T48 l0 x5_1).f1).length c193_1) ∧ w'.cell? ⟨(ad190.add ((x5_1).toNat * 3)).block, (ad190.add ((x5_1).toNat * 3)).off + 2, none⟩ = some (.slice A193_2 ((rd_T48 l0 x5_1).f2).length c193_2) ∧ w'.cell? (ad191.add ((x5_1).toNat * 3)) = some (.int .i64 ((rd_T48 l1 x5_1).f0)) ∧ w'.cell? ⟨(ad191.add ((x5_1).toNat * 3)).block, (ad191.add ((x5_1).toNat * 3)).off + 1, none⟩ = some (.slice A194_1 ((rd_T48 l1 x5_1).f1).length c194_1) ∧ w'.cell? ⟨(ad191.add ((x5_1).toNat * 3)).block, (ad191.add ((x5_1).toNat * 3)).off + 2, none⟩ = some (.slice A194_2 ((rd_T48 l1 x5_1).f2).length c194_2)) (ds := []) L28_13 (by kernel_rfl) rfl rfl ⟨((HB.out.cell (World.block_lt_of_cell? w _ hw193_0)).trans hw193_0), ((HB.out.cell (World.block_lt_of_cell? w _ hw193_1)).trans hw193_1), ((HB.out.cell (World.block_lt_of_cell? w _ hw193_2)).trans hw193_2), ((HB.out.cell (World.block_lt_of_cell? w _ hw194_0)).trans hw194_0), ((HB.out.cell (World.block_lt_of_cell? w _ hw194_1)).trans hw194_1), ((HB.out.cell (World.block_lt_of_cell? w _ hw194_2)).trans hw194_2)⟩ (fun hHeld => ?_); refine with_tabW fullerref10_Same.tab7 fullerref10_Same.bits7 (fun HT_ HW_ => ?_)
         generalize w16.drew = w17 at HB HR193_1 HR193_2 HR194_1 HR194_2 hx193_0 hx193_1 hx193_2 hx194_0 hx194_1 hx194_2 hHeld ⊢
         refine pu_ 0 (some 29) L28_14 HT_ ?_
         refine pu_ 1 (some 30) L28_15 HT_ ?_
         refine pu_ 2 (some 31) L28_16 HT_ ?_
         refine pu_ 3 (some 32) L28_17 HT_ ?_
         refine pu_ 4 (some 33) L28_18 HT_ ?_
         refine pu_ 5 (some 34) L28_19 HT_ ?_
         refine pu_ 6 (some 35) L28_20 HT_ ?_
         refine pu_ 8 (some 37) L28_21 HT_ ?_
         refine pu_ 9 (some 38) L28_22 HT_ ?_
         refine pu_ 10 (some 39) L28_23 HT_ ?_
         refine pu_ 11 (some 40) L28_24 HT_ ?_
         refine ta_ 7 (some 36) L28_25 HT_ HW_ hHeld ?_ (hy := by rintro w' ⟨s0, s1, s2, s3, s4, s5⟩; go_simp; with_reducible rfl)
         refine ta_ 12 (some 41) L28_26 HT_ HW_ hHeld ?_ (hy := by rintro w' ⟨s0, s1, s2, s3, s4, s5⟩; go_simp; with_reducible rfl)
         refine pu_ 13 (some 42) L28_27 HT_ ?_
         refine pu_ 14 (some 43) L28_28 HT_ ?_
         refine pu_ 15 (some 44) L28_29 HT_ ?_
         refine skips_ (fuel := 1) (m := 13) HT_.out (fun _ _ _ _ _ h => h) [(16, 45), (17, 46), (18, 47), (19, 48), (20, 49), (21, 50), (22, 51), (23, 52), (24, 53), (25, 54), (26, 55), (27, 56)] L28_41 rfl (by kernel_rfl) (by kernel_rfl) (a' := ?_) ?_ ?_
         rotate_left
         ·simp only [putU, Act.put, sA_, sB_, sC_]
          rfl
         refine pu_ 28 (some 57) L28_42 HT_ ?_
         refine done_ (done_of HT_.out (by kernel_rfl)) ?_
         try go_wp2
         go_ret
         exact ⟨by first | rfl | (simp <;> rfl) | (simp [*] <;> rfl), bq0_ HB.out⟩
       ·replace c8 := Bool.eq_false_iff.mpr c8
        subst c8
        have H1 : (some false) = some r := by rw [if_neg (show ¬ (false = true) by decide)] at H; exact H
        clear H
        have H := H1
        clear H1
        obtain rfl := Option.some.inj H
        try go_wp2
        replace HB := Aside0.mk (below_drew1 HB.out)
        have p190 : 0 ≤ (x5_1 : Int) := od_
        have q190 : x5_1 < (l0.length : Int) := od_
        obtain ⟨ad190, A190_1, c190_1, A190_2, c190_2, e190, hx190_0, hx190_1, hx190_2, hl190_1, hi190_1, hl190_2, hi190_2⟩ := at_T48 HR0.out x5_1 p190 q190
        have hw190_2 := hx190_2
        have hw190_1 := hx190_1
        have hw190_0 := hx190_0
        cases e190
        replace hx190_0 := hb_ HB hx190_0
        replace hx190_1 := hb_ HB hx190_1
        replace hx190_2 := hb_ HB hx190_2
        have HR190_1 := Aside0.mk hi190_1
        have HC190_1 := Aside0.mk hl190_1
        clear hi190_1 hl190_1
        have HR190_2 := Aside0.mk hi190_2
        have HC190_2 := Aside0.mk hl190_2
        clear hi190_2 hl190_2
        replace p190 := eq_true p190
        replace q190 := eq_true q190
        have p191 : 0 ≤ (x5_1 : Int) := od_
        have q191 : x5_1 < (l1.length : Int) := od_
        obtain ⟨ad191, A191_1, c191_1, A191_2, c191_2, e191, hx191_0, hx191_1, hx191_2, hl191_1, hi191_1, hl191_2, hi191_2⟩ := at_T48 HR1.out x5_1 p191 q191
        have hw191_2 := hx191_2
        have hw191_1 := hx191_1
        have hw191_0 := hx191_0
        cases e191
        replace hx191_0 := hb_ HB hx191_0
        replace hx191_1 := hb_ HB hx191_1
        replace hx191_2 := hb_ HB hx191_2
        have HR191_1 := Aside0.mk hi191_1
        have HC191_1 := Aside0.mk hl191_1
        clear hi191_1 hl191_1
        have HR191_2 := Aside0.mk hi191_2
        have HC191_2 := Aside0.mk hl191_2
        clear hi191_2 hl191_2
        replace p191 := eq_true p191
        replace q191 := eq_true q191
        refine start_ (n := 12) (S := fun w' => w'.cell? (ad190.add ((x5_1).toNat * 3)) = some (.int .i64 ((rd_T48 l0 x5_1).f0)) ∧ w'.cell? ⟨(ad190.add ((x5_1).toNat * 3)).block, (ad190.add ((x5_1).toNat * 3)).off + 1, none⟩ = some (.slice A190_1 ((rd_T48 l0 x5_1).f1).length c190_1) ∧ w'.cell? ⟨(ad190.add ((x5_1).toNat * 3)).block, (ad190.add ((x5_1).toNat * 3)).off + 2, none⟩ = some (.slice A190_2 ((rd_T48 l0 x5_1).f2).length c190_2) ∧ w'.cell? (ad191.add ((x5_1).toNat * 3)) = some (.int .i64 ((rd_T48 l1 x5_1).f0)) ∧ w'.cell? ⟨(ad191.add ((x5_1).toNat * 3)).block, (ad191.add ((x5_1).toNat * 3)).off + 1, none⟩ = some (.slice A191_1 ((rd_T48 l1 x5_1).f1).length c191_1) ∧ w'.cell? ⟨(ad191.add ((x5_1).toNat * 3)).block, (ad191.add ((x5_1).toNat * 3)).off + 2, none⟩ = some (.slice A191_2 ((rd_T48 l1 x5_1).f2).length c191_2)) (ds := []) L28_0 (by kernel_rfl) rfl rfl ⟨((HB.out.cell (World.block_lt_of_cell? w _ hw190_0)).trans hw190_0), ((HB.out.cell (World.block_lt_of_cell? w _ hw190_1)).trans hw190_1), ((HB.out.cell (World.block_lt_of_cell? w _ hw190_2)).trans hw190_2), ((HB.out.cell (World.block_lt_of_cell? w _ hw191_0)).trans hw191_0), ((HB.out.cell (World.block_lt_of_cell? w _ hw191_1)).trans hw191_1), ((HB.out.cell (World.block_lt_of_cell? w _ hw191_2)).trans hw191_2)⟩ (fun hHeld => ?_); refine with_tabW fullerref10_Same.tab6 fullerref10_Same.bits6 (fun HT_ HW_ => ?_)
        generalize wr.drew = w18 at HB HR190_1 HR190_2 HR191_1 HR191_2 hx190_0 hx190_1 hx190_2 hx191_0 hx191_1 hx191_2 hHeld ⊢
        refine pu_ 0 (some 18) L28_1 HT_ ?_
        refine pu_ 1 (some 19) L28_2 HT_ ?_
        refine pu_ 2 (some 20) L28_3 HT_ ?_
        refine pu_ 3 (some 21) L28_4 HT_ ?_
        refine pu_ 5 (some 23) L28_5 HT_ ?_
        refine pu_ 6 (some 24) L28_6 HT_ ?_
        refine pu_ 7 (some 25) L28_7 HT_ ?_
        refine pu_ 8 (some 26) L28_8 HT_ ?_
        refine ta_ 4 (some 22) L28_9 HT_ HW_ hHeld ?_ (hy := by rintro w' ⟨s0, s1, s2, s3, s4, s5⟩; go_simp; with_reducible rfl)
        refine ta_ 9 (some 27) L28_10 HT_ HW_ hHeld ?_ (hy := by rintro w' ⟨s0, s1, s2, s3, s4, s5⟩; go_simp; with_reducible rfl)
        refine one_ (i := 10) (N := some 28) L28_11 rfl rfl (one_of HT_.out (by kernel_rfl)) (by decide) (fun K hK => ?_)
        refine goes_ Try.func52 (by kernel_rfl) rfl #[.slice A190_1 ((rd_T48 l0 x5_1).f1).length c190_1, .slice A191_1 ((rd_T48 l1 x5_1).f1).length c191_1] (by rfl) rfl rfl (by (try simp only [List.map_toArray, List.map_cons, List.map_nil]); first | done | rfl | (simp only [List.length_drop, List.length_take]; rfl)) ?_
        with_reducible refine (fullerref02_Same.calls k1 _ _ ((rd_T48 l0 x5_1).f1) _ _ ((rd_T48 l1 x5_1).f1) false _ ?side1 ?side2 ?side3 ?side4 A7.out).mono ?_
        (case side1 => exact mvC_ ((Kd.C_below HR190_1.out HB.out)))
        (case side2 => exact HC190_1.out)
        (case side3 => exact mvC_ ((Kd.C_below HR191_1.out HB.out)))
        (case side4 => exact HC191_1.out)
        rintro e w' ⟨rfl, ⟨nd, rfl⟩⟩
        refine ⟨_, rfl, ?_⟩
        refine hK.out _ _ ⟨((HB.out.cell (World.block_lt_of_cell? w _ hw190_0)).trans hw190_0), ((HB.out.cell (World.block_lt_of_cell? w _ hw190_1)).trans hw190_1), ((HB.out.cell (World.block_lt_of_cell? w _ hw190_2)).trans hw190_2), ((HB.out.cell (World.block_lt_of_cell? w _ hw191_0)).trans hw191_0), ((HB.out.cell (World.block_lt_of_cell? w _ hw191_1)).trans hw191_1), ((HB.out.cell (World.block_lt_of_cell? w _ hw191_2)).trans hw191_2)⟩ (fun hHeld => ?_)
        clear hK K
        refine norm_ (a' := ?_) ?_ ?_
        rotate_left
        ·show Act.put _ (some 28) _ = _
         simp only [Act.put, sA_, sB_, sC_, i64_w, i32_w]
         rfl
        refine pu_ 11 (some 6) L28_12 HT_ ?_
        refine done_ (done_of HT_.out (by kernel_rfl)) ?_
        try go_wp2
        (try (rw [drewN_self w18]; generalize hq_ : World.drewN w18 _ = w18; have n0_ : Aside0 (Below w.heap.size w w18) := ⟨by rw [← hq_]; exact (bq0_ HB.out)⟩; clear HB hq_; have HB := n0_; clear n0_))
        replace HB := Aside0.mk (below_drew1 HB.out)
        refine start_ (n := 29) (S := fun w' => True) (ds := []) L28_13 (by kernel_rfl) rfl rfl trivial (fun hHeld => ?_); refine with_tabW fullerref10_Same.tab7 fullerref10_Same.bits7 (fun HT_ HW_ => ?_)
        generalize w18.drew = w19 at HB hHeld ⊢
        refine pu_ 0 (some 29) L28_14 HT_ ?_
        refine pu_ 1 (some 30) L28_15 HT_ ?_
        refine pu_ 2 (some 31) L28_16 HT_ ?_
        refine skips_ (fuel := 15) (m := 26) HT_.out (fun _ _ _ _ _ h => h) [(3, 32), (4, 33), (5, 34), (6, 35), (7, 36), (8, 37), (9, 38), (10, 39), (11, 40), (12, 41), (13, 42)] L28_27 rfl (by kernel_rfl) (by kernel_rfl) (a' := ?_) ?_ ?_
        rotate_left
        ·simp only [putU, Act.put, sA_, sB_, sC_]
         rfl
        refine pu_ 14 (some 43) L28_28 HT_ ?_
        refine pu_ 15 (some 44) L28_29 HT_ ?_
        refine skips_ (fuel := 1) (m := 13) HT_.out (fun _ _ _ _ _ h => h) [(16, 45), (17, 46), (18, 47), (19, 48), (20, 49), (21, 50), (22, 51), (23, 52), (24, 53), (25, 54), (26, 55), (27, 56)] L28_41 rfl (by kernel_rfl) (by kernel_rfl) (a' := ?_) ?_ ?_
        rotate_left
        ·simp only [putU, Act.put, sA_, sB_, sC_]
         rfl
        refine pu_ 28 (some 57) L28_42 HT_ ?_
        refine done_ (done_of HT_.out (by kernel_rfl)) ?_
        try go_wp2
        go_ret
        exact ⟨by first | rfl | (simp <;> rfl) | (simp [*] <;> rfl), bq0_ HB.out⟩
      ·rw [if_neg c6] at H
       exact absurd H (by simp)
     ·rw [if_neg c5] at H
      exact absurd H (by simp)
    ·rw [if_neg c4] at H
     have c4b0 : decide (x5_1 < (l0.length : Int)) = false := decide_eq_false c4
     clear c4
     obtain rfl := Option.some.inj H
     go_wp2
     go_ret
     exact ⟨by first | rfl | (simp <;> rfl) | (simp [*] <;> rfl), bq0_ HB.out⟩
 ·rw [if_neg c3] at H
  have c3b0 : ((l0.length : Int) == (l1.length : Int)) = false := beq_eq_false_iff_ne.mpr c3
  have c3b1 : ((l0.length : Int) != (l1.length : Int)) = true := bne_iff_ne.mpr c3
  have c3b2 : (l0.length == l1.length) = false := by first | simpa using c3 | (simp at c3 ⊢; omega)
  obtain rfl := Option.some.inj H
  go_enter Try.func28, Try.ntmps28
  go_wp2
  go_ret
  exact ⟨by first | rfl | (simp <;> rfl) | (simp [*] <;> rfl), bq0_ HB.out⟩
end Go.Proofs.Ytjcgadfmhfhbgaa.A
