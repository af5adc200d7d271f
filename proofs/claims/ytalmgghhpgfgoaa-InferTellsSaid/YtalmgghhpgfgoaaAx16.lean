/- Lean functions that answer as the Go functions do, and the proofs that they do; no conditions. Written by this session's own driver: a scratch copy of the kit's print with the session's additions (wip/xprint). -/
import Derived.Test.YtalmgghhpgfgoaaAx0
import Derived.Test.YtalmgghhpgfgoaaAx9
import Derived.Test.YtalmgghhpgfgoaaAx14
import Derived.Test.YtalmgghhpgfgoaaAx15
namespace Go.Proofs.Ytalmgghhpgfgoaa.A
open Go.RowKit Go.Proofs.YtalmgghhpgfgoaaW.PrintWords Go.Proofs.YtalmgghhpgfgoaaW.PrintLast Go.Proofs.YtalmgghhpgfgoaaW.PrintMore
attribute [local go_sem] max2_int min2_int max_two min_two max_three min_three max_four min_four
set_option linter.unusedVariables false
set_option linter.unusedSimpArgs false
def L30_0 : Array Bool := #[false, false, false, false, false, false, false, false, false, false, false, false, false, false, false, false, false]
def L30_1 : Array Bool := #[true, false, false, false, false, false, false, false, false, false, false, false, false, false, false, false, false]
def L30_2 : Array Bool := #[true, true, false, false, false, false, false, false, false, false, false, false, false, false, false, false, false]
def L30_3 : Array Bool := #[true, true, true, false, false, false, false, false, false, false, false, false, false, false, false, false, false]
def L30_4 : Array Bool := #[true, true, true, true, false, false, false, false, false, false, false, false, false, false, false, false, false]
def L30_5 : Array Bool := #[true, true, true, true, true, false, false, false, false, false, false, false, false, false, false, false, false]
def L30_6 : Array Bool := #[true, true, true, true, true, true, false, false, false, false, false, false, false, false, false, false, false]
def L30_7 : Array Bool := #[true, true, true, true, true, true, true, false, false, false, false, false, false, false, false, false, false]
def L30_8 : Array Bool := #[true, true, true, true, true, true, true, true, false, false, false, false, false, false, false, false, false]
def L30_9 : Array Bool := #[true, true, true, true, true, true, true, true, true, false, false, false, false, false, false, false, false]
def L30_10 : Array Bool := #[true, true, true, true, true, true, true, true, true, true, false, false, false, false, false, false, false]
def L30_11 : Array Bool := #[true, true, true, true, true, true, true, true, true, true, true, false, false, false, false, false, false]
def L30_12 : Array Bool := #[true, true, true, true, true, true, true, true, true, true, true, false, true, false, false, false, false]
def L30_13 : Array Bool := #[true, true, true, true, true, true, true, true, true, true, true, false, true, true, false, false, false]
def L30_14 : Array Bool := #[true, true, true, true, true, true, true, true, true, true, true, true, true, true, false, false, false]
def L30_15 : Array Bool := #[true, true, true, true, true, true, true, true, true, true, true, true, true, true, true, false, false]
def L30_16 : Array Bool := #[true, true, true, true, true, true, true, true, true, true, true, true, true, true, true, true, false]
def L30_17 : Array Bool := #[true, true, true, true, true, true, true, true, true, true, true, true, true, true, true, true, true]
def L30_18 : Array Bool := #[false, false, false, false, false, false, false, false, false, false, false, false]
def L30_19 : Array Bool := #[true, false, false, false, false, false, false, false, false, false, false, false]
def L30_20 : Array Bool := #[true, true, false, false, false, false, false, false, false, false, false, false]
def L30_21 : Array Bool := #[true, true, false, true, false, false, false, false, false, false, false, false]
def L30_22 : Array Bool := #[true, true, false, true, true, false, false, false, false, false, false, false]
def L30_23 : Array Bool := #[true, true, true, true, true, false, false, false, false, false, false, false]
def L30_24 : Array Bool := #[true, true, true, true, true, true, false, false, false, false, false, false]
def L30_25 : Array Bool := #[true, true, true, true, true, true, true, false, false, false, false, false]
def L30_26 : Array Bool := #[true, true, true, true, true, true, true, true, false, false, false, false]
def L30_27 : Array Bool := #[true, true, true, true, true, true, true, true, true, false, false, false]
def L30_28 : Array Bool := #[true, true, true, true, true, true, true, true, true, true, false, false]
def L30_29 : Array Bool := #[true, true, true, true, true, true, true, true, true, true, true, false]
def L30_30 : Array Bool := #[true, true, true, true, true, true, true, true, true, true, true, true]
def L30_31 : Array Bool := #[true, true, true, true, true, false, true, false, false, false, false, false, false, false, false, false, false]
def L30_32 : Array Bool := #[true, true, true, true, true, false, true, true, false, false, false, false, false, false, false, false, false]
def L30_33 : Array Bool := #[true, true, true, true, true, false, true, true, true, false, false, false, false, false, false, false, false]
def L30_34 : Array Bool := #[true, true, true, true, true, true, true, true, true, true, true, true, false, false, false, false, false]
def L30_35 : Array Bool := #[true, true, true, true, true, true, true, true, true, true, true, true, true, false, false, false, false]
def fullerref11_more.j0 : Nat → List Int → Int → List Int → Bool → Option (List Int × Int)
 | 0, _, _, _, _ => none
 | k + 1, x6, x8, x11, x108 => if x108 = true then (some (([] : List Int), 20)) else (if 0 ≤ x8 then (if x8 < (x6.length : Int) then (if x8 < (x11.length : Int) then ((fullerref11_with.f x6 x8 (wrap64 ((rd x6 x8) + (rd x11 x8)))).bind fun t417 => ((fullerref11_told.f k t417 true).bind fun bt420 => (some (bt420.1, bt420.2)))) else (none)) else (none)) else (none))
def fullerref11_more.f (k : Nat) (a0_0 : Int) (l0_1 : List Int) (l0_2 : List Int) (l1 : List (List Int)) : Option (List Int × Int) := if 0 < (l1.length : Int) then (if a0_0 = 30 then (if 1 < (l1.length : Int) then (if ((rd_L1 l1 0).length : Int) = 2 then (if ((rd_L1 l1 1).length : Int) = 2 then (if 1 < ((rd_L1 l1 0).length : Int) then (if 0 < ((rd_L1 l1 1).length : Int) then (if (rd (rd_L1 l1 0) 1) = (rd (rd_L1 l1 1) 0) then (if 0 < ((rd_L1 l1 0).length : Int) then (if 1 < ((rd_L1 l1 1).length : Int) then ((fullerref11_told.f k (([rd (rd_L1 l1 0) 0, rd (rd_L1 l1 1) 1] : List Int)) true).bind fun bt395 => (some (bt395.1, bt395.2))) else (none)) else (none)) else (some (([] : List Int), 20))) else (none)) else (none)) else (some (([] : List Int), 20))) else (some (([] : List Int), 20))) else (none)) else (if 0 < (l0_2.length : Int) then ((fullerref11_axis.f (rd_L1 l1 0) (rd l0_2 0)).bind fun t400 => (if t400 = true then (if a0_0 = 42 then (if 1 < (l0_2.length : Int) then (if 2 < (l0_2.length : Int) then (if (rd l0_2 1) < 0 then (some (([] : List Int), 20)) else (if (rd l0_2 1) ≥ (rd l0_2 2) then (some (([] : List Int), 20)) else (if 0 ≤ (rd l0_2 0) then (if (rd l0_2 0) < ((rd_L1 l1 0).length : Int) then (if (rd l0_2 2) > (rd (rd_L1 l1 0) (rd l0_2 0)) then (some (([] : List Int), 20)) else ((fullerref11_with.f (rd_L1 l1 0) (rd l0_2 0) (wrap64 ((rd l0_2 2) - (rd l0_2 1)))).bind fun t404 => (some (t404, 0)))) else (none)) else (none)))) else (none)) else (none)) else (if a0_0 = 43 then (if 1 < (l1.length : Int) then (if ((rd_L1 l1 0).length : Int) = ((rd_L1 l1 1).length : Int) then ((fullerref11_without.f (rd_L1 l1 0) (rd l0_2 0)).bind fun t408 => ((fullerref11_without.f (rd_L1 l1 1) (rd l0_2 0)).bind fun t411 => ((fullerref02_Same.f k t408 t411).bind fun t414 => (fullerref11_more.j0 k (rd_L1 l1 0) (rd l0_2 0) (rd_L1 l1 1) (!t414))))) else (fullerref11_more.j0 k (rd_L1 l1 0) (rd l0_2 0) (rd_L1 l1 1) true)) else (none)) else ((fullerref11_without.f (rd_L1 l1 0) (rd l0_2 0)).bind fun t424 => (some (t424, 0))))) else (some (([] : List Int), 20)))) else (none))) else (none)
def fullerref11_more.T4 : Bool × List (List Nat × List Nat) := (true, [([], []), ([0], [0]), ([1], [1]), ([2], [2]), ([3], [3]), ([4, 3], [3, 4]), ([5, 3], [3, 5]), ([3, 6], [3, 6]), ([7, 3], [7]), ([8], [8]), ([9, 8], [8, 9]), ([10, 8], [8, 10]), ([8], [8]), ([12, 8], [8, 12]), ([13, 8], [8, 13]), ([11, 14, 8], [8, 11, 14]), ([8, 15], [8, 15])])
def fullerref11_more.B4 : List Nat := [0, 1, 3, 7, 15, 31, 63, 127, 255, 511, 1023, 2047, 511, 4607, 12799, 32767, 65535]
theorem fullerref11_more.tab4 : rtab .any (opsOf Try.f30 4) = fullerref11_more.T4 := by kernel_rfl
theorem fullerref11_more.bits4 : waitsOk fullerref11_more.T4.2 fullerref11_more.B4 = true := by kernel_rfl
def fullerref11_more.T6 : Bool × List (List Nat × List Nat) := (true, [([], []), ([0], [0]), ([1], [1]), ([], []), ([3], [3]), ([4], [4]), ([2, 5], [2, 5]), ([6], [6]), ([7], [7]), ([7], [7]), ([8, 7, 0, 1, 2, 3, 4, 5, 6, 7, 8, 9], [8]), ([9, 10, 0, 1, 2, 3, 4, 5, 6, 7, 8, 9, 10], [9])])
def fullerref11_more.B6 : List Nat := [0, 1, 3, 0, 8, 24, 63, 127, 255, 255, 1023, 2047]
theorem fullerref11_more.tab6 : rtab .any (opsOf Try.f30 6) = fullerref11_more.T6 := by kernel_rfl
theorem fullerref11_more.bits6 : waitsOk fullerref11_more.T6.2 fullerref11_more.B6 = true := by kernel_rfl
def fullerref11_more.T20 : Bool × List (List Nat × List Nat) := (true, [([], []), ([], []), ([], []), ([], []), ([2, 3], [2, 3]), ([4], [4]), ([], []), ([], []), ([6, 7], [6, 7]), ([8], [8]), ([5, 9], [5, 9]), ([0, 1, 10], [0, 1, 10]), ([11, 11], [11]), ([12], [12]), ([12], [12]), ([13, 12, 0, 1, 2, 3, 4, 5, 6, 7, 8, 9, 10, 11, 12, 13, 14], [13]), ([14, 15, 0, 1, 2, 3, 4, 5, 6, 7, 8, 9, 10, 11, 12, 13, 14, 15], [14])])
def fullerref11_more.B20 : List Nat := [0, 0, 0, 0, 12, 28, 0, 0, 192, 448, 1020, 2047, 4095, 8191, 8191, 32767, 65535]
theorem fullerref11_more.tab20 : rtab .any (opsOf Try.f30 20) = fullerref11_more.T20 := by kernel_rfl
theorem fullerref11_more.bits20 : waitsOk fullerref11_more.T20.2 fullerref11_more.B20 = true := by kernel_rfl
set_option maxHeartbeats 8000000 in
set_option maxRecDepth 100000 in
theorem fullerref11_more.calls (k : Nat) (a0_0 : Int) (A0_1 : Option Addr) (c0_1 : Nat) (l0_1 : List Int) (A0_2 : Option Addr) (c0_2 : Nat) (l0_2 : List Int) (A1 : Option Addr) (c1 : Nat) (l1 : List (List Int)) (r1 : List Int) (r2 : Int) (w : World) (hr0_1 : Kd.C (Kd.int .i64) w A0_1 l0_1.length l0_1) (hc0_1 : l0_1.length ≤ c0_1) (hr0_2 : Kd.C (Kd.int .i64) w A0_2 l0_2.length l0_2) (hc0_2 : l0_2.length ≤ c0_2) (hr1 : Kd.C (Kd.slice 3 (Kd.int .i64)) w A1 l1.length l1) (hc1 : l1.length ≤ c1) (h : fullerref11_more.f k a0_0 l0_1 l0_2 l1 = some (r1, r2)) :
  Calls Try.prog 30 #[.agg #[.int .i64 a0_0, .slice A0_1 l0_1.length c0_1, .slice A0_2 l0_2.length c0_2], .slice A1 l1.length c1] w fun e w' => ∃ v0_ : Value, e = .returned (.tuple #[v0_, .int .i64 r2]) ∧ Kd.V (Kd.int .i64) 3 w' w.heap.size (fun k_ => (w.heap.size ≤ k_)) v0_ r1 ∧ Below w.heap.size w w' := by
 have hu25 := Try.underlying25
 have HR0_1 := Aside0.mk hr0_1
 have HC0_1 := Aside0.mk hc0_1
 clear hr0_1 hc0_1
 have HR0_2 := Aside0.mk hr0_2
 have HC0_2 := Aside0.mk hc0_2
 clear hr0_2 hc0_2
 have HR1 := Aside0.mk hr1
 have HC1 := Aside0.mk hc1
 clear hr1 hc1
 have HB := Aside0.mk (Below.refl w.heap.size w)
 have H : (if 0 < (l1.length : Int) then (if a0_0 = 30 then (if 1 < (l1.length : Int) then (if ((rd_L1 l1 0).length : Int) = 2 then (if ((rd_L1 l1 1).length : Int) = 2 then (if 1 < ((rd_L1 l1 0).length : Int) then (if 0 < ((rd_L1 l1 1).length : Int) then (if (rd (rd_L1 l1 0) 1) = (rd (rd_L1 l1 1) 0) then (if 0 < ((rd_L1 l1 0).length : Int) then (if 1 < ((rd_L1 l1 1).length : Int) then ((fullerref11_told.f k (([rd (rd_L1 l1 0) 0, rd (rd_L1 l1 1) 1] : List Int)) true).bind fun bt395 => (some (bt395.1, bt395.2))) else (none)) else (none)) else (some (([] : List Int), 20))) else (none)) else (none)) else (some (([] : List Int), 20))) else (some (([] : List Int), 20))) else (none)) else (if 0 < (l0_2.length : Int) then ((fullerref11_axis.f (rd_L1 l1 0) (rd l0_2 0)).bind fun t400 => (if t400 = true then (if a0_0 = 42 then (if 1 < (l0_2.length : Int) then (if 2 < (l0_2.length : Int) then (if (rd l0_2 1) < 0 then (some (([] : List Int), 20)) else (if (rd l0_2 1) ≥ (rd l0_2 2) then (some (([] : List Int), 20)) else (if 0 ≤ (rd l0_2 0) then (if (rd l0_2 0) < ((rd_L1 l1 0).length : Int) then (if (rd l0_2 2) > (rd (rd_L1 l1 0) (rd l0_2 0)) then (some (([] : List Int), 20)) else ((fullerref11_with.f (rd_L1 l1 0) (rd l0_2 0) (wrap64 ((rd l0_2 2) - (rd l0_2 1)))).bind fun t404 => (some (t404, 0)))) else (none)) else (none)))) else (none)) else (none)) else (if a0_0 = 43 then (if 1 < (l1.length : Int) then (if ((rd_L1 l1 0).length : Int) = ((rd_L1 l1 1).length : Int) then ((fullerref11_without.f (rd_L1 l1 0) (rd l0_2 0)).bind fun t408 => ((fullerref11_without.f (rd_L1 l1 1) (rd l0_2 0)).bind fun t411 => ((fullerref02_Same.f k t408 t411).bind fun t414 => (fullerref11_more.j0 k (rd_L1 l1 0) (rd l0_2 0) (rd_L1 l1 1) (!t414))))) else (fullerref11_more.j0 k (rd_L1 l1 0) (rd l0_2 0) (rd_L1 l1 1) true)) else (none)) else ((fullerref11_without.f (rd_L1 l1 0) (rd l0_2 0)).bind fun t424 => (some (t424, 0))))) else (some (([] : List Int), 20)))) else (none))) else (none)) = some (r1, r2) := h
 clear h
 by_cases c3 : 0 < (l1.length : Int)
 ·rw [if_pos c3] at H
  have c3b0 : decide (0 < (l1.length : Int)) = true := decide_eq_true c3
  have c3b1 : decide (0 < l1.length) = true := decide_eq_true (by omega)
  clear c3
  by_cases c4 : a0_0 = 30
  ·rw [if_pos c4] at H
   obtain ⟨c4b0, c4b1⟩ := eqT_ c4
   clear c4
   by_cases c5 : 1 < (l1.length : Int)
   ·rw [if_pos c5] at H
    have c5b0 : decide (1 < (l1.length : Int)) = true := decide_eq_true c5
    have c5b1 : decide (1 < l1.length) = true := decide_eq_true (by omega)
    clear c5
    by_cases c6 : ((rd_L1 l1 0).length : Int) = 2
    ·rw [if_pos c6] at H
     obtain ⟨c6b0, c6b1⟩ := eqT_ c6
     clear c6
     by_cases c7 : ((rd_L1 l1 1).length : Int) = 2
     ·rw [if_pos c7] at H
      obtain ⟨c7b0, c7b1⟩ := eqT_ c7
      clear c7
      by_cases c8 : 1 < ((rd_L1 l1 0).length : Int)
      ·rw [if_pos c8] at H
       have c8b0 : decide (1 < ((rd_L1 l1 0).length : Int)) = true := decide_eq_true c8
       have c8b1 : decide (1 < (rd_L1 l1 0).length) = true := decide_eq_true (by omega)
       clear c8
       by_cases c9 : 0 < ((rd_L1 l1 1).length : Int)
       ·rw [if_pos c9] at H
        have c9b0 : decide (0 < ((rd_L1 l1 1).length : Int)) = true := decide_eq_true c9
        have c9b1 : decide (0 < (rd_L1 l1 1).length) = true := decide_eq_true (by omega)
        clear c9
        by_cases c10 : (rd (rd_L1 l1 0) 1) = (rd (rd_L1 l1 1) 0)
        ·rw [if_pos c10] at H
         obtain ⟨c10b0, c10b1⟩ := eqT_ c10
         clear c10
         by_cases c11 : 0 < ((rd_L1 l1 0).length : Int)
         ·rw [if_pos c11] at H
          have c11b0 : decide (0 < ((rd_L1 l1 0).length : Int)) = true := decide_eq_true c11
          have c11b1 : decide (0 < (rd_L1 l1 0).length) = true := decide_eq_true (by omega)
          clear c11
          by_cases c12 : 1 < ((rd_L1 l1 1).length : Int)
          ·rw [if_pos c12] at H
           have c12b0 : decide (1 < ((rd_L1 l1 1).length : Int)) = true := decide_eq_true c12
           have c12b1 : decide (1 < (rd_L1 l1 1).length) = true := decide_eq_true (by omega)
           clear c12
           obtain ⟨y392, hy392⟩ : ∃ y_ : List Int, y_ = (([rd (rd_L1 l1 0) 0, rd (rd_L1 l1 1) 1] : List Int)) := ⟨_, rfl⟩
           replace H : ((fullerref11_told.f k y392 true).bind fun bt395 => (some (bt395.1, bt395.2))) = some (r1, r2) := by first | (rw [hy392]; with_reducible exact H) | (have H2_ := (Option.bind_some _ _).symm.trans H; rw [hy392]; with_reducible exact H2_) | (have H2_ := (Option.bind_some _ _).symm.trans H; with_reducible exact H2_) | with_reducible exact H | (rw [hy392]; exact H) | exact H
           have Ny392 := Aside0.mk hy392
           clear hy392
           replace H := Option.bind_eq_some_iff.mp H
           obtain ⟨⟨t395, t398⟩, A130, H⟩ := H
           replace H : (some (t395, t398)) = some (r1, r2) := H
           have A13 := Aside0.mk A130
           clear A130
           simp only [Option.some.injEq, Prod.mk.injEq] at H
           obtain ⟨rfl, rfl⟩ := H
           go_enter Try.func30, Try.ntmps30
           try go_wp2_with (first | ((with_reducible refine gate_dst (N := 2) rfl ?_); (try (refine gate_guard (by rfl) ?_; dsimp only)); refine box_event ?hg (N := 2) ?hd (cs := #[.int .i64 a0_0, .slice A0_1 l0_1.length c0_1, .slice A0_2 l0_2.length c0_2]) (t := 25) ?hr ?_; (case hd => rfl); (case hg => rfl); (case hr => first | (go_simp; done) | (go_simp; rfl)); intro gb385 hg w14 hbox hb; have BK385 := Aside0.mk (hbox); have GW385 := Aside0.mk ((by rw [hg]; exact (below_size (bq0_ HB.out)) : w.heap.size ≤ gb385)); have GE385 := Aside0.mk ((by rw [hg]; exact (below_size (bq0_ HB.out)) : w.heap.size ≤ gb385)); replace HB := Aside0.mk (below_step (bq0_ HB.out) hb); clear hb hbox hg; have p386 : 0 ≤ (0 : Int) := (by omega); have q386 : 0 < (l1.length : Int) := od_; obtain ⟨ad386, A386_0, c386_0, e386, hx386_0, hl386_0, hi386_0⟩ := at_L1 HR1.out 0 p386 q386; cases e386; have qi386 : (0 < l1.length) = True := eq_true (by omega); (try rw [show ((0 : Int)).toNat = 0 from rfl] at hx386_0); (try rw [Addr.add_zero'] at hx386_0); replace hx386_0 := hb_ HB hx386_0; have HR386_0 := Aside0.mk hi386_0; have HC386_0 := Aside0.mk hl386_0; clear hi386_0 hl386_0; replace p386 := eq_true p386; replace q386 := eq_true q386; have hcz15_0 := hc_ BK385 0; have hcz15_1 := hc_ BK385 1; have hcz15_2 := hc_ BK385 2; have hfz15_0 := blk_frozen BK385.out 0; have hfz15_1 := blk_frozen BK385.out 1; have hfz15_2 := blk_frozen BK385.out 2; have p387 : 0 ≤ (1 : Int) := (by omega); have q387 : 1 < (l1.length : Int) := od_; obtain ⟨ad387, A387_0, c387_0, e387, hx387_0, hl387_0, hi387_0⟩ := at_L1 HR1.out 1 p387 q387; obtain rfl : ad386 = ad387 := (by injection e387); (try simp only [show (1 : Int).toNat = 1 from rfl, Nat.reduceMul, Nat.reduceEqDiff, Go.Addr.add, ↓reduceIte] at hx387_0); have qi387 : (1 < l1.length) = True := eq_true (by omega); (try rw [show ((1 : Int)).toNat = 1 from rfl] at hx387_0); replace hx387_0 := hb_ HB hx387_0; have HR387_0 := Aside0.mk hi387_0; have HC387_0 := Aside0.mk hl387_0; clear hi387_0 hl387_0; replace p387 := eq_true p387; replace q387 := eq_true q387))
           replace BK385 := Aside0.mk (blk_drew BK385.out)
           replace HB := Aside0.mk (below_drew1 HB.out)
           have p388 : 0 ≤ (1 : Int) := (by omega)
           have q388 : 1 < ((rd_L1 l1 0).length : Int) := od_
           obtain ⟨ad388, e388, hx388_0⟩ := Kd.at_int HR386_0.out 1 p388 q388
           have hw388_0 := hx388_0
           (try rw [show ((1 : Int)).toNat = 1 from rfl] at hw388_0)
           (try rw [show 1 * 1 = 1 from rfl] at hw388_0)
           (try simp only [Nat.reduceMul, Nat.reduceEqDiff, Go.Addr.add, ↓reduceIte] at hw388_0)
           cases e388
           (try simp only [show (1 : Int).toNat = 1 from rfl, Nat.reduceMul, Nat.reduceEqDiff, Go.Addr.add, ↓reduceIte] at hx388_0)
           have qi388 : (1 < (rd_L1 l1 0).length) = True := eq_true (by omega)
           (try rw [show ((1 : Int)).toNat = 1 from rfl] at hx388_0)
           replace hx388_0 := hb_ HB hx388_0
           replace p388 := eq_true p388
           replace q388 := eq_true q388
           have p389 : 0 ≤ (0 : Int) := (by omega)
           have q389 : 0 < ((rd_L1 l1 1).length : Int) := od_
           obtain ⟨ad389, e389, hx389_0⟩ := Kd.at_int HR387_0.out 0 p389 q389
           have hw389_0 := hx389_0
           (try rw [show ((0 : Int)).toNat = 0 from rfl] at hw389_0)
           (try rw [show 0 * 1 = 0 from rfl] at hw389_0)
           (try rw [Addr.add_zero'] at hw389_0)
           cases e389
           have qi389 : (0 < (rd_L1 l1 1).length) = True := eq_true (by omega)
           (try rw [show ((0 : Int)).toNat = 0 from rfl] at hx389_0)
           (try rw [Addr.add_zero'] at hx389_0)
           replace hx389_0 := hb_ HB hx389_0
           replace p389 := eq_true p389
           replace q389 := eq_true q389
           refine start_ (n := 17) (S := fun w' => w'.cell? ⟨ad388.block, ad388.off + 1, none⟩ = some (.int .i64 (rd (rd_L1 l1 0) 1)) ∧ w'.cell? ad389 = some (.int .i64 (rd (rd_L1 l1 1) 0))) (ds := []) L30_0 (by kernel_rfl) rfl rfl ⟨((HB.out.cell (World.block_lt_of_cell? w _ hw388_0)).trans hw388_0), ((HB.out.cell (World.block_lt_of_cell? w _ hw389_0)).trans hw389_0)⟩ (fun hHeld => ?_); refine with_tabW fullerref11_more.tab4 fullerref11_more.bits4 (fun HT_ HW_ => ?_)
           generalize w14.drew = w16 at BK385 HB hx388_0 hx389_0 hHeld ⊢
           refine pu_ 0 (some 21) L30_1 HT_ ?_
           refine pu_ 1 (some 22) L30_2 HT_ ?_
           refine pu_ 2 (some 23) L30_3 HT_ ?_
           refine pu_ 3 (some 24) L30_4 HT_ ?_
           refine pu_ 4 (some 25) L30_5 HT_ ?_
           refine pu_ 5 (some 26) L30_6 HT_ ?_
           refine pu_ 6 (some 27) L30_7 HT_ ?_
           refine pu_ 7 (some 28) L30_8 HT_ ?_
           refine pu_ 8 (some 29) L30_9 HT_ ?_
           refine pu_ 9 (some 30) L30_10 HT_ ?_
           refine pu_ 10 (some 31) L30_11 HT_ ?_
           refine pu_ 12 (some 33) L30_12 HT_ ?_
           refine pu_ 13 (some 34) L30_13 HT_ ?_
           refine ta_ 11 (some 32) L30_14 HT_ HW_ hHeld ?_ (hy := by rintro w' ⟨s0, s1⟩; go_simp; with_reducible rfl)
           refine ta_ 14 (some 35) L30_15 HT_ HW_ hHeld ?_ (hy := by rintro w' ⟨s0, s1⟩; go_simp; with_reducible rfl)
           refine pu_ 15 (some 36) L30_16 HT_ ?_
           refine pu_ 16 (some 37) L30_17 HT_ ?_
           refine done_ (done_of HT_.out (by kernel_rfl)) ?_
           try go_wp2
           replace BK385 := Aside0.mk (blk_drew BK385.out)
           replace HB := Aside0.mk (below_drew1 HB.out)
           have p390 : 0 ≤ (0 : Int) := (by omega)
           have q390 : 0 < ((rd_L1 l1 0).length : Int) := od_
           obtain ⟨ad390, e390, hx390_0⟩ := Kd.at_int HR386_0.out 0 p390 q390
           have hw390_0 := hx390_0
           (try rw [show ((0 : Int)).toNat = 0 from rfl] at hw390_0)
           (try rw [show 0 * 1 = 0 from rfl] at hw390_0)
           (try rw [Addr.add_zero'] at hw390_0)
           obtain rfl : ad388 = ad390 := (by injection e390)
           have qi390 : (0 < (rd_L1 l1 0).length) = True := eq_true (by omega)
           (try rw [show ((0 : Int)).toNat = 0 from rfl] at hx390_0)
           (try rw [Addr.add_zero'] at hx390_0)
           replace hx390_0 := hb_ HB hx390_0
           replace p390 := eq_true p390
           replace q390 := eq_true q390
           have p391 : 0 ≤ (1 : Int) := (by omega)
           have q391 : 1 < ((rd_L1 l1 1).length : Int) := od_
           obtain ⟨ad391, e391, hx391_0⟩ := Kd.at_int HR387_0.out 1 p391 q391
           have hw391_0 := hx391_0
           (try rw [show ((1 : Int)).toNat = 1 from rfl] at hw391_0)
           (try rw [show 1 * 1 = 1 from rfl] at hw391_0)
           (try simp only [Nat.reduceMul, Nat.reduceEqDiff, Go.Addr.add, ↓reduceIte] at hw391_0)
           obtain rfl : ad389 = ad391 := (by injection e391)
           (try simp only [show (1 : Int).toNat = 1 from rfl, Nat.reduceMul, Nat.reduceEqDiff, Go.Addr.add, ↓reduceIte] at hx391_0)
           have qi391 : (1 < (rd_L1 l1 1).length) = True := eq_true (by omega)
           (try rw [show ((1 : Int)).toNat = 1 from rfl] at hx391_0)
           replace hx391_0 := hb_ HB hx391_0
           replace p391 := eq_true p391
           replace q391 := eq_true q391
           refine start_ (n := 12) (S := fun w' => w'.cell? ad388 = some (.int .i64 (rd (rd_L1 l1 0) 0)) ∧ w'.cell? ⟨ad389.block, ad389.off + 1, none⟩ = some (.int .i64 (rd (rd_L1 l1 1) 1))) (ds := []) L30_18 (by kernel_rfl) rfl rfl ⟨((HB.out.cell (World.block_lt_of_cell? w _ hw390_0)).trans hw390_0), ((HB.out.cell (World.block_lt_of_cell? w _ hw391_0)).trans hw391_0)⟩ (fun hHeld => ?_); refine with_tabW fullerref11_more.tab6 fullerref11_more.bits6 (fun HT_ HW_ => ?_)
           generalize w16.drew = w17 at BK385 HB hx390_0 hx391_0 hHeld ⊢
           refine pu_ 0 (some 38) L30_19 HT_ ?_
           refine pu_ 1 (some 39) L30_20 HT_ ?_
           refine pu_ 3 (some 41) L30_21 HT_ ?_
           refine pu_ 4 (some 42) L30_22 HT_ ?_
           refine ta_ 2 (some 40) L30_23 HT_ HW_ hHeld ?_ (hy := by rintro w' ⟨s0, s1⟩; go_simp; with_reducible rfl)
           refine ta_ 5 (some 43) L30_24 HT_ HW_ hHeld ?_ (hy := by rintro w' ⟨s0, s1⟩; go_simp; with_reducible rfl)
           refine one_ (i := 6) (N := some 44) L30_25 rfl rfl (one_of HT_.out (by kernel_rfl)) (by decide) (fun K hK => ?_)
           refine Kd.R_lit_step (Kd.int .i64) _ 3 ?hg (N := 44) ?hd (xs := ([rd (rd_L1 l1 0) 0, rd (rd_L1 l1 1) 1] : List Int)) (inner := [.int .i64 (rd (rd_L1 l1 0) 0), .int .i64 (rd (rd_L1 l1 1) 1)]) (ok := fun _ => True) (okp := fun _ => True) ?hr ?hp (fun _ hk => hk) trivial (Below.refl _ _) (Nat.le_refl _) (by simp) ?_; (case hd => rfl); (case hg => rfl); (case hr => first | (go_simp; done) | (go_simp; rfl)); (case hp => exact (Reps.one (show Kd.M (Kd.int .i64) _ _ _ (rd (rd_L1 l1 0) 0) [.int .i64 (rd (rd_L1 l1 0) 0)] from rfl) (Reps.one (show Kd.M (Kd.int .i64) _ _ _ (rd (rd_L1 l1 1) 1) [.int .i64 (rd (rd_L1 l1 1) 1)] from rfl) (Reps.none _ _))))
           intro v393 w18 ho19 hb hg_ hnew_
           clear hg_ hnew_
           (first | rw [← Ny392.out] at ho19 | (simp only [Int.reduceToNat] at ho19; rw [← Ny392.out] at ho19))
           have n0_ := Aside0.mk (Kd.R_lower (Kd.R_newM (M := fun k_ => (w.heap.size ≤ k_)) ho19 (below_size (bq1_ HB.out GE385.out)) (fun k_ h_ => h_)) (below_size (bq1_ HB.out GE385.out)))
           have n1_ := Aside0.mk (blk_below (g := gb385) (o := .cells #[.int .i64 a0_0, .slice A0_1 l0_1.length c0_1, .slice A0_2 l0_2.length c0_2] 25 (0, 0)) (mvK_ BK385.out) hb)
           have n2_ := Aside0.mk (below_step (bq1_ HB.out GE385.out) hb)
           clear BK385 HB
           have HO394 := n0_
           have BK385 := n1_
           have HB := n2_
           clear n0_ n1_ n2_ hb ho19
           obtain ⟨Ao20, co20, eo20⟩ := Kd.R_slice HO394.out
           (first | subst eo20 | (injection eo20 with f1_ f2_ f3_; have f4_ := f1_.symm; have f5_ := f3_.symm; clear f1_ f2_ f3_; subst f4_; subst f5_))
           refine hK.out _ _ ⟨((HB.out.cell (World.block_lt_of_cell? w _ hw390_0)).trans hw390_0), ((HB.out.cell (World.block_lt_of_cell? w _ hw391_0)).trans hw391_0)⟩ (fun hHeld => ?_)
           clear hK K
           refine norm_ (a' := ?_) ?_ ?_
           rotate_left
           ·show Act.put _ (some 44) _ = _
            simp only [Act.put, sA_, sB_, sC_, i64_w, i32_w]
            rfl
           refine one_ (i := 7) (N := some 45) L30_26 rfl rfl (one_of HT_.out (by kernel_rfl)) (by decide) (fun K hK => ?_)
           refine goes_ Try.func28 (by kernel_rfl) rfl #[.slice Ao20 y392.length co20, .bool true] (by rfl) rfl rfl (by (try simp only [List.map_toArray, List.map_cons, List.map_nil]); first | done | rfl | (simp only [List.length_drop, List.length_take]; rfl)) ?_
           with_reducible refine (fullerref11_told.calls k (fun k_ => some k_ = (.slice Ao20 y392.length co20 : Value).ownBlock) _ _ y392 true t395 t398 _ ?side1 A13.out).mono ?_
           (case side1 => exact Kd.R_V (Kd.R_tight rfl (Kd.R_types (HO394.out) BK385.out (by decide))))
           rintro e w21 ⟨v396, rfl, ho0, hb⟩
           refine ⟨_, rfl, ?_⟩
           have HO397 := Aside0.mk (Kd.V_lower (Kd.V_mono (ok' := fun k_ => (w.heap.size ≤ k_) ∧ k_ ≠ gb385) ho0 (fun k_ hk_ => ⟨Or.elim hk_ (fun hs_ => ((Kd.R_types (HO394.out) BK385.out (by decide)).1 k_ hs_.symm).1.1) (fun hn_ => (Nat.le_trans (below_size (bq1_ HB.out GE385.out)) hn_)), Or.elim hk_ (fun hs_ => ((Kd.R_types (HO394.out) BK385.out (by decide)).1 k_ hs_.symm).2) (fun hn_ => (Kd.freshB (g := gb385) (o := .cells #[.int .i64 a0_0, .slice A0_1 l0_1.length c0_1, .slice A0_2 l0_2.length c0_2] 25 (0, 0)) (mvK_ BK385.out) k_ hn_))⟩)) (below_size (bq1_ HB.out GE385.out)))
           replace HO394 := Aside0.mk (Kd.R_below (mvR_ HO394.out) hb)
           replace BK385 := Aside0.mk (blk_below (g := gb385) (o := .cells #[.int .i64 a0_0, .slice A0_1 l0_1.length c0_1, .slice A0_2 l0_2.length c0_2] 25 (0, 0)) (mvK_ BK385.out) hb)
           replace HB := Aside0.mk (below_step (bq1_ HB.out GE385.out) hb)
           (try clear hb)
           (try clear hb2)
           (try clear hk)
           (try clear hi)
           (try clear ho0)
           refine hK.out _ _ ⟨((HB.out.cell (World.block_lt_of_cell? w _ hw390_0)).trans hw390_0), ((HB.out.cell (World.block_lt_of_cell? w _ hw391_0)).trans hw391_0)⟩ (fun hHeld => ?_)
           clear hK K
           refine norm_ (a' := ?_) ?_ ?_
           rotate_left
           ·show Act.put _ (some 45) _ = _
            simp only [Act.put, sA_, sB_, sC_, i64_w, i32_w]
            rfl
           refine pu_ 8 (some 46) L30_27 HT_ ?_
           refine pu_ 9 (some 47) L30_28 HT_ ?_
           refine pu_ 10 (some 4) L30_29 HT_ ?_
           refine pu_ 11 (some 5) L30_30 HT_ ?_
           refine done_ (done_of HT_.out (by kernel_rfl)) ?_
           try go_wp2
           go_ret2
           exact ⟨_, by first | rfl | (simp <;> rfl) | (simp [*] <;> rfl), by (with_reducible repeat (first | apply Kd.V_alloc | apply Kd.V_drewN | apply Kd.V_drew)); exact Kd.V_mono HO397.out (fun _ hk => hk.1), bq1_ HB.out GE385.out⟩
          ·rw [if_neg c12] at H
           exact absurd H (by simp)
         ·rw [if_neg c11] at H
          exact absurd H (by simp)
        ·rw [if_neg c10] at H
         have c10b0 : ((rd (rd_L1 l1 0) 1) == (rd (rd_L1 l1 1) 0)) = false := beq_eq_false_iff_ne.mpr c10
         have c10b1 : ((rd (rd_L1 l1 0) 1) != (rd (rd_L1 l1 1) 0)) = true := bne_iff_ne.mpr c10
         simp only [Option.some.injEq, Prod.mk.injEq] at H
         obtain ⟨rfl, rfl⟩ := H
         go_enter Try.func30, Try.ntmps30
         try go_wp2_with (first | ((with_reducible refine gate_dst (N := 2) rfl ?_); (try (refine gate_guard (by rfl) ?_; dsimp only)); refine box_event ?hg (N := 2) ?hd (cs := #[.int .i64 a0_0, .slice A0_1 l0_1.length c0_1, .slice A0_2 l0_2.length c0_2]) (t := 25) ?hr ?_; (case hd => rfl); (case hg => rfl); (case hr => first | (go_simp; done) | (go_simp; rfl)); intro gb385 hg w22 hbox hb; have BK385 := Aside0.mk (hbox); have GW385 := Aside0.mk ((by rw [hg]; exact (below_size (bq0_ HB.out)) : w.heap.size ≤ gb385)); have GE385 := Aside0.mk ((by rw [hg]; exact (below_size (bq0_ HB.out)) : w.heap.size ≤ gb385)); replace HB := Aside0.mk (below_step (bq0_ HB.out) hb); clear hb hbox hg; have p386 : 0 ≤ (0 : Int) := (by omega); have q386 : 0 < (l1.length : Int) := od_; obtain ⟨ad386, A386_0, c386_0, e386, hx386_0, hl386_0, hi386_0⟩ := at_L1 HR1.out 0 p386 q386; cases e386; have qi386 : (0 < l1.length) = True := eq_true (by omega); (try rw [show ((0 : Int)).toNat = 0 from rfl] at hx386_0); (try rw [Addr.add_zero'] at hx386_0); replace hx386_0 := hb_ HB hx386_0; have HR386_0 := Aside0.mk hi386_0; have HC386_0 := Aside0.mk hl386_0; clear hi386_0 hl386_0; replace p386 := eq_true p386; replace q386 := eq_true q386; have hcz23_0 := hc_ BK385 0; have hcz23_1 := hc_ BK385 1; have hcz23_2 := hc_ BK385 2; have hfz23_0 := blk_frozen BK385.out 0; have hfz23_1 := blk_frozen BK385.out 1; have hfz23_2 := blk_frozen BK385.out 2; have p387 : 0 ≤ (1 : Int) := (by omega); have q387 : 1 < (l1.length : Int) := od_; obtain ⟨ad387, A387_0, c387_0, e387, hx387_0, hl387_0, hi387_0⟩ := at_L1 HR1.out 1 p387 q387; obtain rfl : ad386 = ad387 := (by injection e387); (try simp only [show (1 : Int).toNat = 1 from rfl, Nat.reduceMul, Nat.reduceEqDiff, Go.Addr.add, ↓reduceIte] at hx387_0); have qi387 : (1 < l1.length) = True := eq_true (by omega); (try rw [show ((1 : Int)).toNat = 1 from rfl] at hx387_0); replace hx387_0 := hb_ HB hx387_0; have HR387_0 := Aside0.mk hi387_0; have HC387_0 := Aside0.mk hl387_0; clear hi387_0 hl387_0; replace p387 := eq_true p387; replace q387 := eq_true q387))
         replace BK385 := Aside0.mk (blk_drew BK385.out)
         replace HB := Aside0.mk (below_drew1 HB.out)
         have p388 : 0 ≤ (1 : Int) := (by omega)
         have q388 : 1 < ((rd_L1 l1 0).length : Int) := od_
         obtain ⟨ad388, e388, hx388_0⟩ := Kd.at_int HR386_0.out 1 p388 q388
         have hw388_0 := hx388_0
         (try rw [show ((1 : Int)).toNat = 1 from rfl] at hw388_0)
         (try rw [show 1 * 1 = 1 from rfl] at hw388_0)
         (try simp only [Nat.reduceMul, Nat.reduceEqDiff, Go.Addr.add, ↓reduceIte] at hw388_0)
         cases e388
         (try simp only [show (1 : Int).toNat = 1 from rfl, Nat.reduceMul, Nat.reduceEqDiff, Go.Addr.add, ↓reduceIte] at hx388_0)
         have qi388 : (1 < (rd_L1 l1 0).length) = True := eq_true (by omega)
         (try rw [show ((1 : Int)).toNat = 1 from rfl] at hx388_0)
         replace hx388_0 := hb_ HB hx388_0
         replace p388 := eq_true p388
         replace q388 := eq_true q388
         have p389 : 0 ≤ (0 : Int) := (by omega)
         have q389 : 0 < ((rd_L1 l1 1).length : Int) := od_
         obtain ⟨ad389, e389, hx389_0⟩ := Kd.at_int HR387_0.out 0 p389 q389
         have hw389_0 := hx389_0
         (try rw [show ((0 : Int)).toNat = 0 from rfl] at hw389_0)
         (try rw [show 0 * 1 = 0 from rfl] at hw389_0)
         (try rw [Addr.add_zero'] at hw389_0)
         cases e389
         have qi389 : (0 < (rd_L1 l1 1).length) = True := eq_true (by omega)
         (try rw [show ((0 : Int)).toNat = 0 from rfl] at hx389_0)
         (try rw [Addr.add_zero'] at hx389_0)
         replace hx389_0 := hb_ HB hx389_0
         replace p389 := eq_true p389
         replace q389 := eq_true q389
         refine start_ (n := 17) (S := fun w' => w'.cell? ⟨ad388.block, ad388.off + 1, none⟩ = some (.int .i64 (rd (rd_L1 l1 0) 1)) ∧ w'.cell? ad389 = some (.int .i64 (rd (rd_L1 l1 1) 0))) (ds := []) L30_0 (by kernel_rfl) rfl rfl ⟨((HB.out.cell (World.block_lt_of_cell? w _ hw388_0)).trans hw388_0), ((HB.out.cell (World.block_lt_of_cell? w _ hw389_0)).trans hw389_0)⟩ (fun hHeld => ?_); refine with_tabW fullerref11_more.tab4 fullerref11_more.bits4 (fun HT_ HW_ => ?_)
         generalize w22.drew = w24 at BK385 HB hx388_0 hx389_0 hHeld ⊢
         refine pu_ 0 (some 21) L30_1 HT_ ?_
         refine pu_ 1 (some 22) L30_2 HT_ ?_
         refine pu_ 2 (some 23) L30_3 HT_ ?_
         refine pu_ 3 (some 24) L30_4 HT_ ?_
         refine pu_ 4 (some 25) L30_5 HT_ ?_
         refine pu_ 5 (some 26) L30_6 HT_ ?_
         refine pu_ 6 (some 27) L30_7 HT_ ?_
         refine pu_ 7 (some 28) L30_8 HT_ ?_
         refine pu_ 8 (some 29) L30_9 HT_ ?_
         refine pu_ 9 (some 30) L30_10 HT_ ?_
         refine pu_ 10 (some 31) L30_11 HT_ ?_
         refine pu_ 12 (some 33) L30_12 HT_ ?_
         refine pu_ 13 (some 34) L30_13 HT_ ?_
         refine ta_ 11 (some 32) L30_14 HT_ HW_ hHeld ?_ (hy := by rintro w' ⟨s0, s1⟩; go_simp; with_reducible rfl)
         refine ta_ 14 (some 35) L30_15 HT_ HW_ hHeld ?_ (hy := by rintro w' ⟨s0, s1⟩; go_simp; with_reducible rfl)
         refine pu_ 15 (some 36) L30_16 HT_ ?_
         refine pu_ 16 (some 37) L30_17 HT_ ?_
         refine done_ (done_of HT_.out (by kernel_rfl)) ?_
         try go_wp2
         go_ret2
         exact ⟨_, by first | rfl | (simp <;> rfl) | (simp [*] <;> rfl), (Kd.V_nil _ _ _ _ _), bq1_ HB.out GE385.out⟩
       ·rw [if_neg c9] at H
        exact absurd H (by simp)
      ·rw [if_neg c8] at H
       exact absurd H (by simp)
     ·rw [if_neg c7] at H
      have c7b0 : (((rd_L1 l1 1).length : Int) == 2) = false := beq_eq_false_iff_ne.mpr c7
      have c7b1 : (((rd_L1 l1 1).length : Int) != 2) = true := bne_iff_ne.mpr c7
      simp only [Option.some.injEq, Prod.mk.injEq] at H
      obtain ⟨rfl, rfl⟩ := H
      go_enter Try.func30, Try.ntmps30
      try go_wp2_with (first | ((with_reducible refine gate_dst (N := 2) rfl ?_); (try (refine gate_guard (by rfl) ?_; dsimp only)); refine box_event ?hg (N := 2) ?hd (cs := #[.int .i64 a0_0, .slice A0_1 l0_1.length c0_1, .slice A0_2 l0_2.length c0_2]) (t := 25) ?hr ?_; (case hd => rfl); (case hg => rfl); (case hr => first | (go_simp; done) | (go_simp; rfl)); intro gb385 hg w25 hbox hb; have BK385 := Aside0.mk (hbox); have GW385 := Aside0.mk ((by rw [hg]; exact (below_size (bq0_ HB.out)) : w.heap.size ≤ gb385)); have GE385 := Aside0.mk ((by rw [hg]; exact (below_size (bq0_ HB.out)) : w.heap.size ≤ gb385)); replace HB := Aside0.mk (below_step (bq0_ HB.out) hb); clear hb hbox hg; have p386 : 0 ≤ (0 : Int) := (by omega); have q386 : 0 < (l1.length : Int) := od_; obtain ⟨ad386, A386_0, c386_0, e386, hx386_0, hl386_0, hi386_0⟩ := at_L1 HR1.out 0 p386 q386; cases e386; have qi386 : (0 < l1.length) = True := eq_true (by omega); (try rw [show ((0 : Int)).toNat = 0 from rfl] at hx386_0); (try rw [Addr.add_zero'] at hx386_0); replace hx386_0 := hb_ HB hx386_0; have HR386_0 := Aside0.mk hi386_0; have HC386_0 := Aside0.mk hl386_0; clear hi386_0 hl386_0; replace p386 := eq_true p386; replace q386 := eq_true q386; have hcz26_0 := hc_ BK385 0; have hcz26_1 := hc_ BK385 1; have hcz26_2 := hc_ BK385 2; have hfz26_0 := blk_frozen BK385.out 0; have hfz26_1 := blk_frozen BK385.out 1; have hfz26_2 := blk_frozen BK385.out 2; have p387 : 0 ≤ (1 : Int) := (by omega); have q387 : 1 < (l1.length : Int) := od_; obtain ⟨ad387, A387_0, c387_0, e387, hx387_0, hl387_0, hi387_0⟩ := at_L1 HR1.out 1 p387 q387; obtain rfl : ad386 = ad387 := (by injection e387); (try simp only [show (1 : Int).toNat = 1 from rfl, Nat.reduceMul, Nat.reduceEqDiff, Go.Addr.add, ↓reduceIte] at hx387_0); have qi387 : (1 < l1.length) = True := eq_true (by omega); (try rw [show ((1 : Int)).toNat = 1 from rfl] at hx387_0); replace hx387_0 := hb_ HB hx387_0; have HR387_0 := Aside0.mk hi387_0; have HC387_0 := Aside0.mk hl387_0; clear hi387_0 hl387_0; replace p387 := eq_true p387; replace q387 := eq_true q387))
      replace BK385 := Aside0.mk (blk_drew BK385.out)
      replace HB := Aside0.mk (below_drew1 HB.out)
      refine start_ (n := 17) (S := fun w' => True) (ds := []) L30_0 (by kernel_rfl) rfl rfl trivial (fun hHeld => ?_); refine with_tabW fullerref11_more.tab4 fullerref11_more.bits4 (fun HT_ HW_ => ?_)
      generalize w25.drew = w27 at BK385 HB hHeld ⊢
      refine pu_ 0 (some 21) L30_1 HT_ ?_
      refine pu_ 1 (some 22) L30_2 HT_ ?_
      refine pu_ 2 (some 23) L30_3 HT_ ?_
      refine pu_ 3 (some 24) L30_4 HT_ ?_
      refine pu_ 4 (some 25) L30_5 HT_ ?_
      refine pu_ 5 (some 26) L30_6 HT_ ?_
      refine pu_ 6 (some 27) L30_7 HT_ ?_
      refine pu_ 7 (some 28) L30_8 HT_ ?_
      refine pu_ 8 (some 29) L30_9 HT_ ?_
      refine skips_ (fuel := 1) (m := 8) HT_.out (fun _ _ _ _ _ h => h) [(9, 30), (10, 31), (11, 32), (12, 33), (13, 34), (14, 35), (15, 36)] L30_16 rfl (by kernel_rfl) (by kernel_rfl) (a' := ?_) ?_ ?_
      rotate_left
      ·simp only [putU, Act.put, sA_, sB_, sC_]
       rfl
      refine pu_ 16 (some 37) L30_17 HT_ ?_
      refine done_ (done_of HT_.out (by kernel_rfl)) ?_
      try go_wp2
      go_ret2
      exact ⟨_, by first | rfl | (simp <;> rfl) | (simp [*] <;> rfl), (Kd.V_nil _ _ _ _ _), bq1_ HB.out GE385.out⟩
    ·rw [if_neg c6] at H
     have c6b0 : (((rd_L1 l1 0).length : Int) == 2) = false := beq_eq_false_iff_ne.mpr c6
     have c6b1 : (((rd_L1 l1 0).length : Int) != 2) = true := bne_iff_ne.mpr c6
     simp only [Option.some.injEq, Prod.mk.injEq] at H
     obtain ⟨rfl, rfl⟩ := H
     go_enter Try.func30, Try.ntmps30
     try go_wp2_with (first | ((with_reducible refine gate_dst (N := 2) rfl ?_); (try (refine gate_guard (by rfl) ?_; dsimp only)); refine box_event ?hg (N := 2) ?hd (cs := #[.int .i64 a0_0, .slice A0_1 l0_1.length c0_1, .slice A0_2 l0_2.length c0_2]) (t := 25) ?hr ?_; (case hd => rfl); (case hg => rfl); (case hr => first | (go_simp; done) | (go_simp; rfl)); intro gb385 hg w28 hbox hb; have BK385 := Aside0.mk (hbox); have GW385 := Aside0.mk ((by rw [hg]; exact (below_size (bq0_ HB.out)) : w.heap.size ≤ gb385)); have GE385 := Aside0.mk ((by rw [hg]; exact (below_size (bq0_ HB.out)) : w.heap.size ≤ gb385)); replace HB := Aside0.mk (below_step (bq0_ HB.out) hb); clear hb hbox hg; have p386 : 0 ≤ (0 : Int) := (by omega); have q386 : 0 < (l1.length : Int) := od_; obtain ⟨ad386, A386_0, c386_0, e386, hx386_0, hl386_0, hi386_0⟩ := at_L1 HR1.out 0 p386 q386; cases e386; have qi386 : (0 < l1.length) = True := eq_true (by omega); (try rw [show ((0 : Int)).toNat = 0 from rfl] at hx386_0); (try rw [Addr.add_zero'] at hx386_0); replace hx386_0 := hb_ HB hx386_0; have HR386_0 := Aside0.mk hi386_0; have HC386_0 := Aside0.mk hl386_0; clear hi386_0 hl386_0; replace p386 := eq_true p386; replace q386 := eq_true q386; have hcz29_0 := hc_ BK385 0; have hcz29_1 := hc_ BK385 1; have hcz29_2 := hc_ BK385 2; have hfz29_0 := blk_frozen BK385.out 0; have hfz29_1 := blk_frozen BK385.out 1; have hfz29_2 := blk_frozen BK385.out 2; have p387 : 0 ≤ (1 : Int) := (by omega); have q387 : 1 < (l1.length : Int) := od_; obtain ⟨ad387, A387_0, c387_0, e387, hx387_0, hl387_0, hi387_0⟩ := at_L1 HR1.out 1 p387 q387; obtain rfl : ad386 = ad387 := (by injection e387); (try simp only [show (1 : Int).toNat = 1 from rfl, Nat.reduceMul, Nat.reduceEqDiff, Go.Addr.add, ↓reduceIte] at hx387_0); have qi387 : (1 < l1.length) = True := eq_true (by omega); (try rw [show ((1 : Int)).toNat = 1 from rfl] at hx387_0); replace hx387_0 := hb_ HB hx387_0; have HR387_0 := Aside0.mk hi387_0; have HC387_0 := Aside0.mk hl387_0; clear hi387_0 hl387_0; replace p387 := eq_true p387; replace q387 := eq_true q387))
     replace BK385 := Aside0.mk (blk_drew BK385.out)
     replace HB := Aside0.mk (below_drew1 HB.out)
     refine start_ (n := 17) (S := fun w' => True) (ds := []) L30_0 (by kernel_rfl) rfl rfl trivial (fun hHeld => ?_); refine with_tabW fullerref11_more.tab4 fullerref11_more.bits4 (fun HT_ HW_ => ?_)
     generalize w28.drew = w30 at BK385 HB hHeld ⊢
     refine pu_ 0 (some 21) L30_1 HT_ ?_
     refine pu_ 1 (some 22) L30_2 HT_ ?_
     refine pu_ 2 (some 23) L30_3 HT_ ?_
     refine pu_ 3 (some 24) L30_4 HT_ ?_
     refine skips_ (fuel := 10) (m := 13) HT_.out (fun _ _ _ _ _ h => h) [(4, 25), (5, 26), (6, 27)] L30_7 rfl (by kernel_rfl) (by kernel_rfl) (a' := ?_) ?_ ?_
     rotate_left
     ·simp only [putU, Act.put, sA_, sB_, sC_]
      rfl
     refine pu_ 7 (some 28) L30_8 HT_ ?_
     refine pu_ 8 (some 29) L30_9 HT_ ?_
     refine skips_ (fuel := 1) (m := 8) HT_.out (fun _ _ _ _ _ h => h) [(9, 30), (10, 31), (11, 32), (12, 33), (13, 34), (14, 35), (15, 36)] L30_16 rfl (by kernel_rfl) (by kernel_rfl) (a' := ?_) ?_ ?_
     rotate_left
     ·simp only [putU, Act.put, sA_, sB_, sC_]
      rfl
     refine pu_ 16 (some 37) L30_17 HT_ ?_
     refine done_ (done_of HT_.out (by kernel_rfl)) ?_
     try go_wp2
     go_ret2
     exact ⟨_, by first | rfl | (simp <;> rfl) | (simp [*] <;> rfl), (Kd.V_nil _ _ _ _ _), bq1_ HB.out GE385.out⟩
   ·rw [if_neg c5] at H
    exact absurd H (by simp)
  ·rw [if_neg c4] at H
   have c4b0 : (a0_0 == 30) = false := beq_eq_false_iff_ne.mpr c4
   have c4b1 : (a0_0 != 30) = true := bne_iff_ne.mpr c4
   by_cases c31 : 0 < (l0_2.length : Int)
   ·rw [if_pos c31] at H
    have c31b0 : decide (0 < (l0_2.length : Int)) = true := decide_eq_true c31
    have c31b1 : decide (0 < l0_2.length) = true := decide_eq_true (by omega)
    clear c31
    replace H := Option.bind_eq_some_iff.mp H
    obtain ⟨t400, A320, H⟩ := H
    replace H : (if t400 = true then (if a0_0 = 42 then (if 1 < (l0_2.length : Int) then (if 2 < (l0_2.length : Int) then (if (rd l0_2 1) < 0 then (some (([] : List Int), 20)) else (if (rd l0_2 1) ≥ (rd l0_2 2) then (some (([] : List Int), 20)) else (if 0 ≤ (rd l0_2 0) then (if (rd l0_2 0) < ((rd_L1 l1 0).length : Int) then (if (rd l0_2 2) > (rd (rd_L1 l1 0) (rd l0_2 0)) then (some (([] : List Int), 20)) else ((fullerref11_with.f (rd_L1 l1 0) (rd l0_2 0) (wrap64 ((rd l0_2 2) - (rd l0_2 1)))).bind fun t404 => (some (t404, 0)))) else (none)) else (none)))) else (none)) else (none)) else (if a0_0 = 43 then (if 1 < (l1.length : Int) then (if ((rd_L1 l1 0).length : Int) = ((rd_L1 l1 1).length : Int) then ((fullerref11_without.f (rd_L1 l1 0) (rd l0_2 0)).bind fun t408 => ((fullerref11_without.f (rd_L1 l1 1) (rd l0_2 0)).bind fun t411 => ((fullerref02_Same.f k t408 t411).bind fun t414 => (fullerref11_more.j0 k (rd_L1 l1 0) (rd l0_2 0) (rd_L1 l1 1) (!t414))))) else (fullerref11_more.j0 k (rd_L1 l1 0) (rd l0_2 0) (rd_L1 l1 1) true)) else (none)) else ((fullerref11_without.f (rd_L1 l1 0) (rd l0_2 0)).bind fun t424 => (some (t424, 0))))) else (some (([] : List Int), 20))) = some (r1, r2) := H
    have A32 := Aside0.mk A320
    clear A320
    by_cases c33 : t400 = true
    ·subst c33
     have H1 : (if a0_0 = 42 then (if 1 < (l0_2.length : Int) then (if 2 < (l0_2.length : Int) then (if (rd l0_2 1) < 0 then (some (([] : List Int), 20)) else (if (rd l0_2 1) ≥ (rd l0_2 2) then (some (([] : List Int), 20)) else (if 0 ≤ (rd l0_2 0) then (if (rd l0_2 0) < ((rd_L1 l1 0).length : Int) then (if (rd l0_2 2) > (rd (rd_L1 l1 0) (rd l0_2 0)) then (some (([] : List Int), 20)) else ((fullerref11_with.f (rd_L1 l1 0) (rd l0_2 0) (wrap64 ((rd l0_2 2) - (rd l0_2 1)))).bind fun t404 => (some (t404, 0)))) else (none)) else (none)))) else (none)) else (none)) else (if a0_0 = 43 then (if 1 < (l1.length : Int) then (if ((rd_L1 l1 0).length : Int) = ((rd_L1 l1 1).length : Int) then ((fullerref11_without.f (rd_L1 l1 0) (rd l0_2 0)).bind fun t408 => ((fullerref11_without.f (rd_L1 l1 1) (rd l0_2 0)).bind fun t411 => ((fullerref02_Same.f k t408 t411).bind fun t414 => (fullerref11_more.j0 k (rd_L1 l1 0) (rd l0_2 0) (rd_L1 l1 1) (!t414))))) else (fullerref11_more.j0 k (rd_L1 l1 0) (rd l0_2 0) (rd_L1 l1 1) true)) else (none)) else ((fullerref11_without.f (rd_L1 l1 0) (rd l0_2 0)).bind fun t424 => (some (t424, 0))))) = some (r1, r2) := by rw [if_pos rfl] at H; exact H
     clear H
     have H := H1
     clear H1
     by_cases c34 : a0_0 = 42
     ·rw [if_pos c34] at H
      obtain ⟨c34b0, c34b1⟩ := eqT_ c34
      clear c34
      by_cases c35 : 1 < (l0_2.length : Int)
      ·rw [if_pos c35] at H
       have c35b0 : decide (1 < (l0_2.length : Int)) = true := decide_eq_true c35
       have c35b1 : decide (1 < l0_2.length) = true := decide_eq_true (by omega)
       clear c35
       by_cases c36 : 2 < (l0_2.length : Int)
       ·rw [if_pos c36] at H
        have c36b0 : decide (2 < (l0_2.length : Int)) = true := decide_eq_true c36
        have c36b1 : decide (2 < l0_2.length) = true := decide_eq_true (by omega)
        clear c36
        by_cases c37 : (rd l0_2 1) < 0
        ·rw [if_pos c37] at H
         have c37b0 : decide ((rd l0_2 1) < 0) = true := decide_eq_true c37
         clear c37
         simp only [Option.some.injEq, Prod.mk.injEq] at H
         obtain ⟨rfl, rfl⟩ := H
         go_enter Try.func30, Try.ntmps30
         go_wp2_with (first | ((with_reducible refine gate_dst (N := 2) rfl ?_); (try (refine gate_guard (by rfl) ?_; dsimp only)); refine box_event ?hg (N := 2) ?hd (cs := #[.int .i64 a0_0, .slice A0_1 l0_1.length c0_1, .slice A0_2 l0_2.length c0_2]) (t := 25) ?hr ?_; (case hd => rfl); (case hg => rfl); (case hr => first | (go_simp; done) | (go_simp; rfl)); intro gb385 hg w38 hbox hb; have BK385 := Aside0.mk (hbox); have GW385 := Aside0.mk ((by rw [hg]; exact (below_size (bq0_ HB.out)) : w.heap.size ≤ gb385)); have GE385 := Aside0.mk ((by rw [hg]; exact (below_size (bq0_ HB.out)) : w.heap.size ≤ gb385)); replace HB := Aside0.mk (below_step (bq0_ HB.out) hb); clear hb hbox hg; have p386 : 0 ≤ (0 : Int) := (by omega); have q386 : 0 < (l1.length : Int) := od_; obtain ⟨ad386, A386_0, c386_0, e386, hx386_0, hl386_0, hi386_0⟩ := at_L1 HR1.out 0 p386 q386; cases e386; have qi386 : (0 < l1.length) = True := eq_true (by omega); (try rw [show ((0 : Int)).toNat = 0 from rfl] at hx386_0); (try rw [Addr.add_zero'] at hx386_0); replace hx386_0 := hb_ HB hx386_0; have HR386_0 := Aside0.mk hi386_0; have HC386_0 := Aside0.mk hl386_0; clear hi386_0 hl386_0; replace p386 := eq_true p386; replace q386 := eq_true q386; have hcz39_0 := hc_ BK385 0; have hcz39_1 := hc_ BK385 1; have hcz39_2 := hc_ BK385 2; have hfz39_0 := blk_frozen BK385.out 0; have hfz39_1 := blk_frozen BK385.out 1; have hfz39_2 := blk_frozen BK385.out 2; have p399 : 0 ≤ (0 : Int) := (by omega); have q399 : 0 < (l0_2.length : Int) := od_; obtain ⟨ad399, e399, hx399_0⟩ := Kd.at_int HR0_2.out 0 p399 q399; cases e399; have qi399 : (0 < l0_2.length) = True := eq_true (by omega); (try rw [show ((0 : Int)).toNat = 0 from rfl] at hx399_0); (try rw [Addr.add_zero'] at hx399_0); replace hx399_0 := hb_ HB hx399_0; replace p399 := eq_true p399; replace q399 := eq_true q399) | ((with_reducible refine gate_callee (f := 55) rfl ?_); refine gL_ (some 54) Try.func55 #[.slice A386_0 (rd_L1 l1 0).length c386_0, .int .i64 (rd l0_2 0)] ?_; (with_reducible refine (fullerref11_axis.calls _ _ (rd_L1 l1 0) (rd l0_2 0) true _ ?side1 ?side2 A32.out).mono ?_); (case side1 => exact mvC_ ((Kd.C_below HR386_0.out HB.out))); (case side2 => exact HC386_0.out); rintro e w' ⟨rfl, ⟨nd, rfl⟩⟩; refine ⟨_, rfl, ?_⟩; have p401 : 0 ≤ (1 : Int) := (by omega); have q401 : 1 < (l0_2.length : Int) := od_; obtain ⟨ad401, e401, hx401_0⟩ := Kd.at_int HR0_2.out 1 p401 q401; obtain rfl : ad399 = ad401 := (by injection e401); (try simp only [show (1 : Int).toNat = 1 from rfl, Nat.reduceMul, Nat.reduceEqDiff, Go.Addr.add, ↓reduceIte] at hx401_0); have qi401 : (1 < l0_2.length) = True := eq_true (by omega); (try rw [show ((1 : Int)).toNat = 1 from rfl] at hx401_0); replace hx401_0 := hb_ HB hx401_0; replace p401 := eq_true p401; replace q401 := eq_true q401; have p402 : 0 ≤ (2 : Int) := (by omega); have q402 : 2 < (l0_2.length : Int) := od_; obtain ⟨ad402, e402, hx402_0⟩ := Kd.at_int HR0_2.out 2 p402 q402; obtain rfl : ad399 = ad402 := (by injection e402); (try simp only [show (2 : Int).toNat = 2 from rfl, Nat.reduceMul, Nat.reduceEqDiff, Go.Addr.add, ↓reduceIte] at hx402_0); have qi402 : (2 < l0_2.length) = True := eq_true (by omega); (try rw [show ((2 : Int)).toNat = 2 from rfl] at hx402_0); replace hx402_0 := hb_ HB hx402_0; replace p402 := eq_true p402; replace q402 := eq_true q402))
         go_ret2
         exact ⟨_, by first | rfl | (simp <;> rfl) | (simp [*] <;> rfl), (Kd.V_nil _ _ _ _ _), bq1_ HB.out GE385.out⟩
        ·rw [if_neg c37] at H
         have c37b0 : decide ((rd l0_2 1) < 0) = false := decide_eq_false c37
         clear c37
         by_cases c40 : (rd l0_2 1) ≥ (rd l0_2 2)
         ·rw [if_pos c40] at H
          have c40b0 : decide ((rd l0_2 2) ≤ (rd l0_2 1)) = true := decide_eq_true c40
          clear c40
          simp only [Option.some.injEq, Prod.mk.injEq] at H
          obtain ⟨rfl, rfl⟩ := H
          go_enter Try.func30, Try.ntmps30
          go_wp2_with (first | ((with_reducible refine gate_dst (N := 2) rfl ?_); (try (refine gate_guard (by rfl) ?_; dsimp only)); refine box_event ?hg (N := 2) ?hd (cs := #[.int .i64 a0_0, .slice A0_1 l0_1.length c0_1, .slice A0_2 l0_2.length c0_2]) (t := 25) ?hr ?_; (case hd => rfl); (case hg => rfl); (case hr => first | (go_simp; done) | (go_simp; rfl)); intro gb385 hg w41 hbox hb; have BK385 := Aside0.mk (hbox); have GW385 := Aside0.mk ((by rw [hg]; exact (below_size (bq0_ HB.out)) : w.heap.size ≤ gb385)); have GE385 := Aside0.mk ((by rw [hg]; exact (below_size (bq0_ HB.out)) : w.heap.size ≤ gb385)); replace HB := Aside0.mk (below_step (bq0_ HB.out) hb); clear hb hbox hg; have p386 : 0 ≤ (0 : Int) := (by omega); have q386 : 0 < (l1.length : Int) := od_; obtain ⟨ad386, A386_0, c386_0, e386, hx386_0, hl386_0, hi386_0⟩ := at_L1 HR1.out 0 p386 q386; cases e386; have qi386 : (0 < l1.length) = True := eq_true (by omega); (try rw [show ((0 : Int)).toNat = 0 from rfl] at hx386_0); (try rw [Addr.add_zero'] at hx386_0); replace hx386_0 := hb_ HB hx386_0; have HR386_0 := Aside0.mk hi386_0; have HC386_0 := Aside0.mk hl386_0; clear hi386_0 hl386_0; replace p386 := eq_true p386; replace q386 := eq_true q386; have hcz42_0 := hc_ BK385 0; have hcz42_1 := hc_ BK385 1; have hcz42_2 := hc_ BK385 2; have hfz42_0 := blk_frozen BK385.out 0; have hfz42_1 := blk_frozen BK385.out 1; have hfz42_2 := blk_frozen BK385.out 2; have p399 : 0 ≤ (0 : Int) := (by omega); have q399 : 0 < (l0_2.length : Int) := od_; obtain ⟨ad399, e399, hx399_0⟩ := Kd.at_int HR0_2.out 0 p399 q399; cases e399; have qi399 : (0 < l0_2.length) = True := eq_true (by omega); (try rw [show ((0 : Int)).toNat = 0 from rfl] at hx399_0); (try rw [Addr.add_zero'] at hx399_0); replace hx399_0 := hb_ HB hx399_0; replace p399 := eq_true p399; replace q399 := eq_true q399) | ((with_reducible refine gate_callee (f := 55) rfl ?_); refine gL_ (some 54) Try.func55 #[.slice A386_0 (rd_L1 l1 0).length c386_0, .int .i64 (rd l0_2 0)] ?_; (with_reducible refine (fullerref11_axis.calls _ _ (rd_L1 l1 0) (rd l0_2 0) true _ ?side1 ?side2 A32.out).mono ?_); (case side1 => exact mvC_ ((Kd.C_below HR386_0.out HB.out))); (case side2 => exact HC386_0.out); rintro e w' ⟨rfl, ⟨nd, rfl⟩⟩; refine ⟨_, rfl, ?_⟩; have p401 : 0 ≤ (1 : Int) := (by omega); have q401 : 1 < (l0_2.length : Int) := od_; obtain ⟨ad401, e401, hx401_0⟩ := Kd.at_int HR0_2.out 1 p401 q401; obtain rfl : ad399 = ad401 := (by injection e401); (try simp only [show (1 : Int).toNat = 1 from rfl, Nat.reduceMul, Nat.reduceEqDiff, Go.Addr.add, ↓reduceIte] at hx401_0); have qi401 : (1 < l0_2.length) = True := eq_true (by omega); (try rw [show ((1 : Int)).toNat = 1 from rfl] at hx401_0); replace hx401_0 := hb_ HB hx401_0; replace p401 := eq_true p401; replace q401 := eq_true q401; have p402 : 0 ≤ (2 : Int) := (by omega); have q402 : 2 < (l0_2.length : Int) := od_; obtain ⟨ad402, e402, hx402_0⟩ := Kd.at_int HR0_2.out 2 p402 q402; obtain rfl : ad399 = ad402 := (by injection e402); (try simp only [show (2 : Int).toNat = 2 from rfl, Nat.reduceMul, Nat.reduceEqDiff, Go.Addr.add, ↓reduceIte] at hx402_0); have qi402 : (2 < l0_2.length) = True := eq_true (by omega); (try rw [show ((2 : Int)).toNat = 2 from rfl] at hx402_0); replace hx402_0 := hb_ HB hx402_0; replace p402 := eq_true p402; replace q402 := eq_true q402))
          go_ret2
          exact ⟨_, by first | rfl | (simp <;> rfl) | (simp [*] <;> rfl), (Kd.V_nil _ _ _ _ _), bq1_ HB.out GE385.out⟩
         ·rw [if_neg c40] at H
          have c40b0 : decide ((rd l0_2 2) ≤ (rd l0_2 1)) = false := decide_eq_false c40
          clear c40
          by_cases c43 : 0 ≤ (rd l0_2 0)
          ·rw [if_pos c43] at H
           have c43b0 : decide (0 ≤ (rd l0_2 0)) = true := decide_eq_true c43
           clear c43
           by_cases c44 : (rd l0_2 0) < ((rd_L1 l1 0).length : Int)
           ·rw [if_pos c44] at H
            have c44b0 : decide ((rd l0_2 0) < ((rd_L1 l1 0).length : Int)) = true := decide_eq_true c44
            clear c44
            by_cases c45 : (rd l0_2 2) > (rd (rd_L1 l1 0) (rd l0_2 0))
            ·rw [if_pos c45] at H
             have c45b0 : decide ((rd (rd_L1 l1 0) (rd l0_2 0)) < (rd l0_2 2)) = true := decide_eq_true c45
             clear c45
             simp only [Option.some.injEq, Prod.mk.injEq] at H
             obtain ⟨rfl, rfl⟩ := H
             go_enter Try.func30, Try.ntmps30
             go_wp2_with (first | ((with_reducible refine gate_dst (N := 2) rfl ?_); (try (refine gate_guard (by rfl) ?_; dsimp only)); refine box_event ?hg (N := 2) ?hd (cs := #[.int .i64 a0_0, .slice A0_1 l0_1.length c0_1, .slice A0_2 l0_2.length c0_2]) (t := 25) ?hr ?_; (case hd => rfl); (case hg => rfl); (case hr => first | (go_simp; done) | (go_simp; rfl)); intro gb385 hg w46 hbox hb; have BK385 := Aside0.mk (hbox); have GW385 := Aside0.mk ((by rw [hg]; exact (below_size (bq0_ HB.out)) : w.heap.size ≤ gb385)); have GE385 := Aside0.mk ((by rw [hg]; exact (below_size (bq0_ HB.out)) : w.heap.size ≤ gb385)); replace HB := Aside0.mk (below_step (bq0_ HB.out) hb); clear hb hbox hg; have p386 : 0 ≤ (0 : Int) := (by omega); have q386 : 0 < (l1.length : Int) := od_; obtain ⟨ad386, A386_0, c386_0, e386, hx386_0, hl386_0, hi386_0⟩ := at_L1 HR1.out 0 p386 q386; cases e386; have qi386 : (0 < l1.length) = True := eq_true (by omega); (try rw [show ((0 : Int)).toNat = 0 from rfl] at hx386_0); (try rw [Addr.add_zero'] at hx386_0); replace hx386_0 := hb_ HB hx386_0; have HR386_0 := Aside0.mk hi386_0; have HC386_0 := Aside0.mk hl386_0; clear hi386_0 hl386_0; replace p386 := eq_true p386; replace q386 := eq_true q386; have hcz47_0 := hc_ BK385 0; have hcz47_1 := hc_ BK385 1; have hcz47_2 := hc_ BK385 2; have hfz47_0 := blk_frozen BK385.out 0; have hfz47_1 := blk_frozen BK385.out 1; have hfz47_2 := blk_frozen BK385.out 2; have p399 : 0 ≤ (0 : Int) := (by omega); have q399 : 0 < (l0_2.length : Int) := od_; obtain ⟨ad399, e399, hx399_0⟩ := Kd.at_int HR0_2.out 0 p399 q399; cases e399; have qi399 : (0 < l0_2.length) = True := eq_true (by omega); (try rw [show ((0 : Int)).toNat = 0 from rfl] at hx399_0); (try rw [Addr.add_zero'] at hx399_0); replace hx399_0 := hb_ HB hx399_0; replace p399 := eq_true p399; replace q399 := eq_true q399) | ((with_reducible refine gate_callee (f := 55) rfl ?_); refine gL_ (some 54) Try.func55 #[.slice A386_0 (rd_L1 l1 0).length c386_0, .int .i64 (rd l0_2 0)] ?_; (with_reducible refine (fullerref11_axis.calls _ _ (rd_L1 l1 0) (rd l0_2 0) true _ ?side1 ?side2 A32.out).mono ?_); (case side1 => exact mvC_ ((Kd.C_below HR386_0.out HB.out))); (case side2 => exact HC386_0.out); rintro e w' ⟨rfl, ⟨nd, rfl⟩⟩; refine ⟨_, rfl, ?_⟩; have p401 : 0 ≤ (1 : Int) := (by omega); have q401 : 1 < (l0_2.length : Int) := od_; obtain ⟨ad401, e401, hx401_0⟩ := Kd.at_int HR0_2.out 1 p401 q401; obtain rfl : ad399 = ad401 := (by injection e401); (try simp only [show (1 : Int).toNat = 1 from rfl, Nat.reduceMul, Nat.reduceEqDiff, Go.Addr.add, ↓reduceIte] at hx401_0); have qi401 : (1 < l0_2.length) = True := eq_true (by omega); (try rw [show ((1 : Int)).toNat = 1 from rfl] at hx401_0); replace hx401_0 := hb_ HB hx401_0; replace p401 := eq_true p401; replace q401 := eq_true q401; have p402 : 0 ≤ (2 : Int) := (by omega); have q402 : 2 < (l0_2.length : Int) := od_; obtain ⟨ad402, e402, hx402_0⟩ := Kd.at_int HR0_2.out 2 p402 q402; obtain rfl : ad399 = ad402 := (by injection e402); (try simp only [show (2 : Int).toNat = 2 from rfl, Nat.reduceMul, Nat.reduceEqDiff, Go.Addr.add, ↓reduceIte] at hx402_0); have qi402 : (2 < l0_2.length) = True := eq_true (by omega); (try rw [show ((2 : Int)).toNat = 2 from rfl] at hx402_0); replace hx402_0 := hb_ HB hx402_0; replace p402 := eq_true p402; replace q402 := eq_true q402; have p403 : 0 ≤ ((rd l0_2 0) : Int) := od_; have q403 : (rd l0_2 0) < ((rd_L1 l1 0).length : Int) := od_; obtain ⟨ad403, e403, hx403_0⟩ := Kd.at_int HR386_0.out (rd l0_2 0) p403 q403; cases e403; replace hx403_0 := hb_ HB hx403_0; replace p403 := eq_true p403; replace q403 := eq_true q403))
             go_ret2
             exact ⟨_, by first | rfl | (simp <;> rfl) | (simp [*] <;> rfl), (Kd.V_nil _ _ _ _ _), bq1_ HB.out GE385.out⟩
            ·rw [if_neg c45] at H
             have c45b0 : decide ((rd (rd_L1 l1 0) (rd l0_2 0)) < (rd l0_2 2)) = false := decide_eq_false c45
             clear c45
             replace H := Option.bind_eq_some_iff.mp H
             obtain ⟨t404, A480, H⟩ := H
             replace H : (some (t404, 0)) = some (r1, r2) := H
             have A48 := Aside0.mk A480
             clear A480
             simp only [Option.some.injEq, Prod.mk.injEq] at H
             obtain ⟨rfl, rfl⟩ := H
             go_enter Try.func30, Try.ntmps30
             go_wp2_with (first | ((with_reducible refine gate_dst (N := 2) rfl ?_); (try (refine gate_guard (by rfl) ?_; dsimp only)); refine box_event ?hg (N := 2) ?hd (cs := #[.int .i64 a0_0, .slice A0_1 l0_1.length c0_1, .slice A0_2 l0_2.length c0_2]) (t := 25) ?hr ?_; (case hd => rfl); (case hg => rfl); (case hr => first | (go_simp; done) | (go_simp; rfl)); intro gb385 hg w49 hbox hb; have BK385 := Aside0.mk (hbox); have GW385 := Aside0.mk ((by rw [hg]; exact (below_size (bq0_ HB.out)) : w.heap.size ≤ gb385)); have GE385 := Aside0.mk ((by rw [hg]; exact (below_size (bq0_ HB.out)) : w.heap.size ≤ gb385)); replace HB := Aside0.mk (below_step (bq0_ HB.out) hb); clear hb hbox hg; have p386 : 0 ≤ (0 : Int) := (by omega); have q386 : 0 < (l1.length : Int) := od_; obtain ⟨ad386, A386_0, c386_0, e386, hx386_0, hl386_0, hi386_0⟩ := at_L1 HR1.out 0 p386 q386; cases e386; have qi386 : (0 < l1.length) = True := eq_true (by omega); (try rw [show ((0 : Int)).toNat = 0 from rfl] at hx386_0); (try rw [Addr.add_zero'] at hx386_0); replace hx386_0 := hb_ HB hx386_0; have HR386_0 := Aside0.mk hi386_0; have HC386_0 := Aside0.mk hl386_0; clear hi386_0 hl386_0; replace p386 := eq_true p386; replace q386 := eq_true q386; have hcz50_0 := hc_ BK385 0; have hcz50_1 := hc_ BK385 1; have hcz50_2 := hc_ BK385 2; have hfz50_0 := blk_frozen BK385.out 0; have hfz50_1 := blk_frozen BK385.out 1; have hfz50_2 := blk_frozen BK385.out 2; have p399 : 0 ≤ (0 : Int) := (by omega); have q399 : 0 < (l0_2.length : Int) := od_; obtain ⟨ad399, e399, hx399_0⟩ := Kd.at_int HR0_2.out 0 p399 q399; cases e399; have qi399 : (0 < l0_2.length) = True := eq_true (by omega); (try rw [show ((0 : Int)).toNat = 0 from rfl] at hx399_0); (try rw [Addr.add_zero'] at hx399_0); replace hx399_0 := hb_ HB hx399_0; replace p399 := eq_true p399; replace q399 := eq_true q399) | ((with_reducible refine gate_callee (f := 55) rfl ?_); refine gL_ (some 54) Try.func55 #[.slice A386_0 (rd_L1 l1 0).length c386_0, .int .i64 (rd l0_2 0)] ?_; (with_reducible refine (fullerref11_axis.calls _ _ (rd_L1 l1 0) (rd l0_2 0) true _ ?side1 ?side2 A32.out).mono ?_); (case side1 => exact mvC_ ((Kd.C_below HR386_0.out HB.out))); (case side2 => exact HC386_0.out); rintro e w' ⟨rfl, ⟨nd, rfl⟩⟩; refine ⟨_, rfl, ?_⟩; have p401 : 0 ≤ (1 : Int) := (by omega); have q401 : 1 < (l0_2.length : Int) := od_; obtain ⟨ad401, e401, hx401_0⟩ := Kd.at_int HR0_2.out 1 p401 q401; obtain rfl : ad399 = ad401 := (by injection e401); (try simp only [show (1 : Int).toNat = 1 from rfl, Nat.reduceMul, Nat.reduceEqDiff, Go.Addr.add, ↓reduceIte] at hx401_0); have qi401 : (1 < l0_2.length) = True := eq_true (by omega); (try rw [show ((1 : Int)).toNat = 1 from rfl] at hx401_0); replace hx401_0 := hb_ HB hx401_0; replace p401 := eq_true p401; replace q401 := eq_true q401; have p402 : 0 ≤ (2 : Int) := (by omega); have q402 : 2 < (l0_2.length : Int) := od_; obtain ⟨ad402, e402, hx402_0⟩ := Kd.at_int HR0_2.out 2 p402 q402; obtain rfl : ad399 = ad402 := (by injection e402); (try simp only [show (2 : Int).toNat = 2 from rfl, Nat.reduceMul, Nat.reduceEqDiff, Go.Addr.add, ↓reduceIte] at hx402_0); have qi402 : (2 < l0_2.length) = True := eq_true (by omega); (try rw [show ((2 : Int)).toNat = 2 from rfl] at hx402_0); replace hx402_0 := hb_ HB hx402_0; replace p402 := eq_true p402; replace q402 := eq_true q402; have p403 : 0 ≤ ((rd l0_2 0) : Int) := od_; have q403 : (rd l0_2 0) < ((rd_L1 l1 0).length : Int) := od_; obtain ⟨ad403, e403, hx403_0⟩ := Kd.at_int HR386_0.out (rd l0_2 0) p403 q403; cases e403; replace hx403_0 := hb_ HB hx403_0; replace p403 := eq_true p403; replace q403 := eq_true q403) | ((with_reducible refine gate_callee (f := 56) rfl ?_); refine gL_ (some 87) Try.func56 #[.slice (some ad403) (rd_L1 l1 0).length c386_0, .int .i64 (rd l0_2 0), .int .i64 (wrap64 ((rd l0_2 2) - (rd l0_2 1)))] ?_; (with_reducible refine (fullerref11_with.calls _ _ (rd_L1 l1 0) (rd l0_2 0) (wrap64 ((rd l0_2 2) - (rd l0_2 1))) t404 _ ?side1 ?side2 A48.out).mono ?_); (case side1 => repeat (first | exact (Kd.C_below HR386_0.out (bq1_ HB.out GE385.out)) | (with_reducible refine Kd.C_alloc ?_ _) | (with_reducible refine Kd.C_drewN ?_ _) | (with_reducible refine Kd.C_drew ?_))); (case side2 => exact HC386_0.out); rintro e w51 ⟨v405, rfl, ho0, hb⟩; refine ⟨_, rfl, ?_⟩; have HO406 := Aside0.mk (Kd.R_lower (Kd.R_newM (M := fun k_ => (w.heap.size ≤ k_)) ho0 (below_size (bq1_ HB.out GE385.out)) (fun k_ h_ => h_)) (below_size (bq1_ HB.out GE385.out))); replace BK385 := Aside0.mk (blk_below (g := gb385) (o := .cells #[.int .i64 a0_0, .slice A0_1 l0_1.length c0_1, .slice (some ad399) l0_2.length c0_2] 25 (0, 0)) (mvK_ BK385.out) hb); replace HB := Aside0.mk (below_step (bq1_ HB.out GE385.out) hb); (try clear hb); (try clear ho0)))
             go_ret2
             exact ⟨_, by first | rfl | (simp <;> rfl) | (simp [*] <;> rfl), Kd.R_V (by (with_reducible repeat (first | apply Kd.R_alloc | apply Kd.R_drewN | apply Kd.R_drew)); exact Kd.R_mono HO406.out (fun _ hk => hk.1)), bq1_ HB.out GE385.out⟩
           ·rw [if_neg c44] at H
            exact absurd H (by simp)
          ·rw [if_neg c43] at H
           exact absurd H (by simp)
       ·rw [if_neg c36] at H
        exact absurd H (by simp)
      ·rw [if_neg c35] at H
       exact absurd H (by simp)
     ·rw [if_neg c34] at H
      have c34b0 : (a0_0 == 42) = false := beq_eq_false_iff_ne.mpr c34
      have c34b1 : (a0_0 != 42) = true := bne_iff_ne.mpr c34
      by_cases c52 : a0_0 = 43
      ·rw [if_pos c52] at H
       obtain ⟨c52b0, c52b1⟩ := eqT_ c52
       clear c52
       by_cases c53 : 1 < (l1.length : Int)
       ·rw [if_pos c53] at H
        have c53b0 : decide (1 < (l1.length : Int)) = true := decide_eq_true c53
        have c53b1 : decide (1 < l1.length) = true := decide_eq_true (by omega)
        clear c53
        have HC54 := Aside0.mk H
        clear H
        go_enter Try.func30, Try.ntmps30
        go_upto_region 18 with (first | ((with_reducible refine gate_dst (N := 2) rfl ?_); (try (refine gate_guard (by rfl) ?_; dsimp only)); refine box_event ?hg (N := 2) ?hd (cs := #[.int .i64 a0_0, .slice A0_1 l0_1.length c0_1, .slice A0_2 l0_2.length c0_2]) (t := 25) ?hr ?_; (case hd => rfl); (case hg => rfl); (case hr => first | (go_simp; done) | (go_simp; rfl)); intro gb385 hg w55 hbox hb; have BK385 := Aside0.mk (hbox); have GW385 := Aside0.mk ((by rw [hg]; exact (below_size (bq0_ HB.out)) : w.heap.size ≤ gb385)); have GE385 := Aside0.mk ((by rw [hg]; exact (below_size (bq0_ HB.out)) : w.heap.size ≤ gb385)); replace HB := Aside0.mk (below_step (bq0_ HB.out) hb); clear hb hbox hg; have p386 : 0 ≤ (0 : Int) := (by omega); have q386 : 0 < (l1.length : Int) := od_; obtain ⟨ad386, A386_0, c386_0, e386, hx386_0, hl386_0, hi386_0⟩ := at_L1 HR1.out 0 p386 q386; cases e386; have qi386 : (0 < l1.length) = True := eq_true (by omega); (try rw [show ((0 : Int)).toNat = 0 from rfl] at hx386_0); (try rw [Addr.add_zero'] at hx386_0); replace hx386_0 := hb_ HB hx386_0; have HR386_0 := Aside0.mk hi386_0; have HC386_0 := Aside0.mk hl386_0; clear hi386_0 hl386_0; replace p386 := eq_true p386; replace q386 := eq_true q386; have hcz56_0 := hc_ BK385 0; have hcz56_1 := hc_ BK385 1; have hcz56_2 := hc_ BK385 2; have hfz56_0 := blk_frozen BK385.out 0; have hfz56_1 := blk_frozen BK385.out 1; have hfz56_2 := blk_frozen BK385.out 2; have p399 : 0 ≤ (0 : Int) := (by omega); have q399 : 0 < (l0_2.length : Int) := od_; obtain ⟨ad399, e399, hx399_0⟩ := Kd.at_int HR0_2.out 0 p399 q399; cases e399; have qi399 : (0 < l0_2.length) = True := eq_true (by omega); (try rw [show ((0 : Int)).toNat = 0 from rfl] at hx399_0); (try rw [Addr.add_zero'] at hx399_0); replace hx399_0 := hb_ HB hx399_0; replace p399 := eq_true p399; replace q399 := eq_true q399) | ((with_reducible refine gate_callee (f := 55) rfl ?_); refine gL_ (some 54) Try.func55 #[.slice A386_0 (rd_L1 l1 0).length c386_0, .int .i64 (rd l0_2 0)] ?_; (with_reducible refine (fullerref11_axis.calls _ _ (rd_L1 l1 0) (rd l0_2 0) true _ ?side1 ?side2 A32.out).mono ?_); (case side1 => exact mvC_ ((Kd.C_below HR386_0.out HB.out))); (case side2 => exact HC386_0.out); rintro e w' ⟨rfl, ⟨nd, rfl⟩⟩; refine ⟨_, rfl, ?_⟩; have p407 : 0 ≤ (1 : Int) := (by omega); have q407 : 1 < (l1.length : Int) := od_; obtain ⟨ad407, A407_0, c407_0, e407, hx407_0, hl407_0, hi407_0⟩ := at_L1 HR1.out 1 p407 q407; obtain rfl : ad386 = ad407 := (by injection e407); (try simp only [show (1 : Int).toNat = 1 from rfl, Nat.reduceMul, Nat.reduceEqDiff, Go.Addr.add, ↓reduceIte] at hx407_0); have qi407 : (1 < l1.length) = True := eq_true (by omega); (try rw [show ((1 : Int)).toNat = 1 from rfl] at hx407_0); replace hx407_0 := hb_ HB hx407_0; have HR407_0 := Aside0.mk hi407_0; have HC407_0 := Aside0.mk hl407_0; clear hi407_0 hl407_0; replace p407 := eq_true p407; replace q407 := eq_true q407))
        (try simp only [Act.put, sA_, sB_, sC_])
        go_cut [108] (fun v108 wc => ∃ (kq : Nat) (x108_53 : Bool), v108 = .bool x108_53 ∧ Aside0 (fullerref11_more.j0 kq (rd_L1 l1 0) (rd l0_2 0) (rd_L1 l1 1) x108_53 = some (r1, r2)) ∧ Aside0 (kq ≤ k) ∧ Aside0 (wc.heap[gb385]? = some (.cells #[.int .i64 a0_0, (.slice A0_1 l0_1.length c0_1), (.slice (some ad399) l0_2.length c0_2)] 25 (0, 0))) ∧ Aside0 (Below w.heap.size w wc))
        case first =>
         have H := HC54.out
         clear HC54
         by_cases c57 : ((rd_L1 l1 0).length : Int) = ((rd_L1 l1 1).length : Int)
         ·rw [if_pos c57] at H
          have c57b0 : (((rd_L1 l1 0).length : Int) == ((rd_L1 l1 1).length : Int)) = true := beq_iff_eq.mpr c57
          have c57b1 : (((rd_L1 l1 0).length : Int) != ((rd_L1 l1 1).length : Int)) = false := bne_eq_false_iff_eq.mpr c57
          have c57b2 : ((rd_L1 l1 0).length == (rd_L1 l1 1).length) = true := by first | simpa using c57 | (simp at c57 ⊢; omega)
          clear c57
          (first | rw [c57b0] | (simp only [i64_w, i32_w]; rw [c57b0]) | skip)
          replace H := Option.bind_eq_some_iff.mp H
          obtain ⟨t408, A580, H⟩ := H
          replace H : ((fullerref11_without.f (rd_L1 l1 1) (rd l0_2 0)).bind fun t411 => ((fullerref02_Same.f k t408 t411).bind fun t414 => (fullerref11_more.j0 k (rd_L1 l1 0) (rd l0_2 0) (rd_L1 l1 1) (!t414)))) = some (r1, r2) := H
          have A58 := Aside0.mk A580
          clear A580
          replace H := Option.bind_eq_some_iff.mp H
          obtain ⟨t411, A590, H⟩ := H
          replace H : ((fullerref02_Same.f k t408 t411).bind fun t414 => (fullerref11_more.j0 k (rd_L1 l1 0) (rd l0_2 0) (rd_L1 l1 1) (!t414))) = some (r1, r2) := H
          have A59 := Aside0.mk A590
          clear A590
          replace H := Option.bind_eq_some_iff.mp H
          obtain ⟨t414, A600, H⟩ := H
          replace H : (fullerref11_more.j0 k (rd_L1 l1 0) (rd l0_2 0) (rd_L1 l1 1) (!t414)) = some (r1, r2) := H
          have A60 := Aside0.mk A600
          clear A600
          have H' := Aside0.mk H
          clear H
          go_wp2_with (first | (go_at_call 57; (with_reducible refine (fullerref11_without.calls _ _ (rd_L1 l1 0) (rd l0_2 0) t408 _ ?side1 ?side2 A58.out).mono ?_); (case side1 => exact mvC_ ((Kd.C_below HR386_0.out HB.out))); (case side2 => exact HC386_0.out); rintro e w61 ⟨v409, rfl, ho0, hb⟩; have HO410 := Aside0.mk (Kd.R_lower (Kd.R_newM (M := fun k_ => (w.heap.size ≤ k_)) ho0 (below_size (bq1_ HB.out GE385.out)) (fun k_ h_ => h_)) (below_size (bq1_ HB.out GE385.out))); replace BK385 := Aside0.mk (blk_below (g := gb385) (o := .cells #[.int .i64 a0_0, .slice A0_1 l0_1.length c0_1, .slice (some ad399) l0_2.length c0_2] 25 (0, 0)) (mvK_ BK385.out) hb); replace HB := Aside0.mk (below_step (bq1_ HB.out GE385.out) hb); (try clear hb); (try clear ho0)) | (go_at_call 57; (with_reducible refine (fullerref11_without.calls _ _ (rd_L1 l1 1) (rd l0_2 0) t411 _ ?side1 ?side2 A59.out).mono ?_); (case side1 => exact mvC_ ((Kd.C_below HR407_0.out HB.out))); (case side2 => exact HC407_0.out); rintro e w62 ⟨v412, rfl, ho0, hb⟩; have HO413 := Aside0.mk (Kd.R_lower (Kd.R_new' (Kd.R_newM (M := fun k_ => (w.heap.size ≤ k_)) ho0 (below_size (bq1_ HB.out GE385.out)) (fun k_ h_ => h_)) (Kd.R_lt (mvR_ HO410.out))) (below_size (bq1_ HB.out GE385.out))); replace HO410 := Aside0.mk (Kd.R_elder' (mvR_ HO410.out) (Kd.R_base ho0) hb); replace BK385 := Aside0.mk (blk_below (g := gb385) (o := .cells #[.int .i64 a0_0, .slice A0_1 l0_1.length c0_1, .slice (some ad399) l0_2.length c0_2] 25 (0, 0)) (mvK_ BK385.out) hb); replace HB := Aside0.mk (below_step (bq1_ HB.out GE385.out) hb); (try clear hb); (try clear ho0); obtain ⟨Ao63, co63, eo63⟩ := Kd.R_slice HO410.out; subst eo63; obtain ⟨Ao64, co64, eo64⟩ := Kd.R_slice HO413.out; subst eo64) | (go_at_call 15; (with_reducible refine (fullerref02_Same.calls k _ _ t408 _ _ t411 t414 _ ?side1 ?side2 ?side3 ?side4 A60.out).mono ?_); (case side1 => exact mvC_ ((Kd.R_reads' HO410.out).2.2)); (case side2 => exact (Kd.R_reads' HO410.out).2.1); (case side3 => exact mvC_ ((Kd.R_reads' HO413.out).2.2)); (case side4 => exact (Kd.R_reads' HO413.out).2.1); rintro e w' ⟨rfl, ⟨nd, rfl⟩⟩))
          go_meet
          case rel => exact ⟨_, (!t414), (by first | rfl | (simp; done) | (simp [*]; done)), H', ⟨by first | omega | exact Nat.le_refl _⟩, ⟨by (with_reducible repeat (first | refine blk_drewN ?_ _ | refine blk_drew ?_ | refine blk_alloc ?_ _)); exact BK385.out⟩, ⟨bq1_ HB.out GE385.out⟩⟩
         ·rw [if_neg c57] at H
          have c57b0 : (((rd_L1 l1 0).length : Int) == ((rd_L1 l1 1).length : Int)) = false := beq_eq_false_iff_ne.mpr c57
          have c57b1 : (((rd_L1 l1 0).length : Int) != ((rd_L1 l1 1).length : Int)) = true := bne_iff_ne.mpr c57
          have c57b2 : ((rd_L1 l1 0).length == (rd_L1 l1 1).length) = false := by first | simpa using c57 | (simp at c57 ⊢; omega)
          (first | rw [c57b0] | (simp only [i64_w, i32_w]; rw [c57b0]) | skip)
          have H' := Aside0.mk H
          clear H
          go_wp2
          go_meet
          case rel => exact ⟨_, (true), (by first | rfl | (simp; done) | (simp [*]; done)), H', ⟨by first | omega | exact Nat.le_refl _⟩, ⟨by (with_reducible repeat (first | refine blk_drewN ?_ _ | refine blk_drew ?_ | refine blk_alloc ?_ _)); exact BK385.out⟩, ⟨bq1_ HB.out GE385.out⟩⟩
        case rest =>
         clear HC54
         try clear c1
         try clear p2
         try clear c3
         try clear p3
         try clear q3
         try clear hx3
         try clear qi3
         try clear c4
         try clear c4b0
         try clear c4b1
         try clear p4
         try clear q4
         try clear hx4
         try clear qi4
         try clear c5
         try clear c6
         try clear c6b0
         try clear c6b1
         try clear p6
         try clear c7
         try clear c7b0
         try clear c7b1
         try clear c8
         try clear c9
         try clear c10
         try clear c10b0
         try clear c10b1
         try clear c11
         try clear c12
         try clear c30
         try clear c31
         try clear c31b0
         try clear c31b1
         try clear c33
         try clear c34
         try clear c34b0
         try clear c34b1
         try clear c35
         try clear c35b0
         try clear c35b1
         try clear c36
         try clear c36b0
         try clear c36b1
         try clear c37
         try clear c37b0
         try clear c38
         try clear p38
         try clear q38
         try clear hx38
         try clear qi38
         try clear p39
         try clear q39
         try clear hx39
         try clear qi39
         try clear c40
         try clear c40b0
         try clear p40
         try clear q40
         try clear hx40
         try clear qi40
         try clear c43
         try clear c43b0
         try clear c44
         try clear c44b0
         try clear c45
         try clear c45b0
         try clear c52
         try clear c52b0
         try clear c52b1
         try clear c53
         try clear c53b0
         try clear c53b1
         try clear c55
         try clear c56
         try clear c57
         try clear c57b0
         try clear c57b1
         try clear c57b2
         try clear p64
         try clear hcz23_0
         try clear hcz23_1
         try clear hcz23_2
         try clear hcz26_0
         try clear hcz26_1
         try clear hcz26_2
         try clear hcz29_0
         try clear hcz29_1
         try clear hcz29_2
         try clear hcz39_0
         try clear hcz39_1
         try clear hcz39_2
         try clear hcz42_0
         try clear hcz42_1
         try clear hcz42_2
         try clear hcz47_0
         try clear hcz47_1
         try clear hcz47_2
         try clear hcz50_0
         try clear hcz50_1
         try clear hcz50_2
         try clear hcz56_0
         try clear hcz56_1
         try clear hcz56_2
         try clear hfz23_0
         try clear hfz23_1
         try clear hfz23_2
         try clear hfz26_0
         try clear hfz26_1
         try clear hfz26_2
         try clear hfz29_0
         try clear hfz29_1
         try clear hfz29_2
         try clear hfz39_0
         try clear hfz39_1
         try clear hfz39_2
         try clear hfz42_0
         try clear hfz42_1
         try clear hfz42_2
         try clear hfz47_0
         try clear hfz47_1
         try clear hfz47_2
         try clear hfz50_0
         try clear hfz50_1
         try clear hfz50_2
         try clear hfz56_0
         try clear hfz56_1
         try clear hfz56_2
         try clear hx386_0
         try clear hx387_0
         try clear hx388_0
         try clear hx389_0
         try clear hx399_0
         try clear hx401_0
         try clear hx402_0
         try clear hx403_0
         try clear hx407_0
         try clear p386
         try clear p387
         try clear p388
         try clear p389
         try clear p399
         try clear p401
         try clear p402
         try clear p403
         try clear p407
         try clear q386
         try clear q387
         try clear q388
         try clear q389
         try clear q399
         try clear q401
         try clear q402
         try clear q403
         try clear q407
         obtain ⟨kq, x108_53, rfl, HA, HJ53, BK385, HB⟩ := hcut
         cases kq with
         | zero => exact absurd HA.out (by simp [fullerref11_more.j0])
         | succ kj53 =>
          have H := HA.out
          clear HA
          simp only [fullerref11_more.j0] at H
          by_cases c65 : x108_53 = true
          ·subst c65
           have H1 : (some (([] : List Int), 20)) = some (r1, r2) := by rw [if_pos rfl] at H; exact H
           clear H
           have H := H1
           clear H1
           simp only [Option.some.injEq, Prod.mk.injEq] at H
           obtain ⟨rfl, rfl⟩ := H
           go_wp2
           go_ret2
           exact ⟨_, by first | rfl | (simp <;> rfl) | (simp [*] <;> rfl), (Kd.V_nil _ _ _ _ _), bq1_ HB.out GE385.out⟩
          ·replace c65 := Bool.eq_false_iff.mpr c65
           subst c65
           have H1 : (if 0 ≤ (rd l0_2 0) then (if (rd l0_2 0) < ((rd_L1 l1 0).length : Int) then (if (rd l0_2 0) < ((rd_L1 l1 1).length : Int) then ((fullerref11_with.f (rd_L1 l1 0) (rd l0_2 0) (wrap64 ((rd (rd_L1 l1 0) (rd l0_2 0)) + (rd (rd_L1 l1 1) (rd l0_2 0))))).bind fun t417 => ((fullerref11_told.f kj53 t417 true).bind fun bt420 => (some (bt420.1, bt420.2)))) else (none)) else (none)) else (none)) = some (r1, r2) := by rw [if_neg (show ¬ (false = true) by decide)] at H; exact H
           clear H
           have H := H1
           clear H1
           by_cases c66 : 0 ≤ (rd l0_2 0)
           ·rw [if_pos c66] at H
            have c66b0 : decide (0 ≤ (rd l0_2 0)) = true := decide_eq_true c66
            clear c66
            by_cases c67 : (rd l0_2 0) < ((rd_L1 l1 0).length : Int)
            ·rw [if_pos c67] at H
             have c67b0 : decide ((rd l0_2 0) < ((rd_L1 l1 0).length : Int)) = true := decide_eq_true c67
             clear c67
             by_cases c68 : (rd l0_2 0) < ((rd_L1 l1 1).length : Int)
             ·rw [if_pos c68] at H
              have c68b0 : decide ((rd l0_2 0) < ((rd_L1 l1 1).length : Int)) = true := decide_eq_true c68
              clear c68
              replace H := Option.bind_eq_some_iff.mp H
              obtain ⟨t417, A690, H⟩ := H
              replace H : ((fullerref11_told.f kj53 t417 true).bind fun bt420 => (some (bt420.1, bt420.2))) = some (r1, r2) := H
              have A69 := Aside0.mk A690
              clear A690
              replace H := Option.bind_eq_some_iff.mp H
              obtain ⟨⟨t420, t423⟩, A700, H⟩ := H
              replace H : (some (t420, t423)) = some (r1, r2) := H
              have A70 := Aside0.mk A700
              clear A700
              simp only [Option.some.injEq, Prod.mk.injEq] at H
              obtain ⟨rfl, rfl⟩ := H
              try go_wp2
              replace BK385 := Aside0.mk (blk_drew BK385.out)
              replace HB := Aside0.mk (below_drew1 HB.out)
              have p415 : 0 ≤ ((rd l0_2 0) : Int) := od_
              have q415 : (rd l0_2 0) < ((rd_L1 l1 0).length : Int) := od_
              obtain ⟨ad415, e415, hx415_0⟩ := Kd.at_int HR386_0.out (rd l0_2 0) p415 q415
              have hw415_0 := hx415_0
              cases e415
              replace hx415_0 := hb_ HB hx415_0
              replace p415 := eq_true p415
              replace q415 := eq_true q415
              have p416 : 0 ≤ ((rd l0_2 0) : Int) := od_
              have q416 : (rd l0_2 0) < ((rd_L1 l1 1).length : Int) := od_
              obtain ⟨ad416, e416, hx416_0⟩ := Kd.at_int HR407_0.out (rd l0_2 0) p416 q416
              have hw416_0 := hx416_0
              cases e416
              replace hx416_0 := hb_ HB hx416_0
              replace p416 := eq_true p416
              replace q416 := eq_true q416
              refine start_ (n := 17) (S := fun w' => w'.cell? (ad415.add ((rd l0_2 0)).toNat) = some (.int .i64 (rd (rd_L1 l1 0) (rd l0_2 0))) ∧ w'.cell? (ad416.add ((rd l0_2 0)).toNat) = some (.int .i64 (rd (rd_L1 l1 1) (rd l0_2 0)))) (ds := []) L30_0 (by kernel_rfl) rfl rfl ⟨((HB.out.cell (World.block_lt_of_cell? w _ hw415_0)).trans hw415_0), ((HB.out.cell (World.block_lt_of_cell? w _ hw416_0)).trans hw416_0)⟩ (fun hHeld => ?_); refine with_tabW fullerref11_more.tab20 fullerref11_more.bits20 (fun HT_ HW_ => ?_)
              generalize wc.drew = w71 at BK385 HB hx415_0 hx416_0 hHeld ⊢
              refine pu_ 0 (some 109) L30_1 HT_ ?_
              refine pu_ 1 (some 110) L30_2 HT_ ?_
              refine pu_ 2 (some 111) L30_3 HT_ ?_
              refine pu_ 3 (some 112) L30_4 HT_ ?_
              refine pu_ 4 (some 113) L30_5 HT_ ?_
              refine pu_ 6 (some 115) L30_31 HT_ ?_
              refine pu_ 7 (some 116) L30_32 HT_ ?_
              refine pu_ 8 (some 117) L30_33 HT_ ?_
              refine ta_ 5 (some 114) L30_9 HT_ HW_ hHeld ?_ (hy := by rintro w' ⟨s0, s1⟩; go_simp; with_reducible rfl)
              refine ta_ 9 (some 118) L30_10 HT_ HW_ hHeld ?_ (hy := by rintro w' ⟨s0, s1⟩; go_simp; with_reducible rfl)
              refine pu_ 10 (some 119) L30_11 HT_ ?_
              refine one_ (i := 11) (N := some 120) L30_34 rfl rfl (one_of HT_.out (by kernel_rfl)) (by decide) (fun K hK => ?_)
              refine goes_ Try.func56 (by kernel_rfl) rfl #[.slice (some ad415) (rd_L1 l1 0).length c386_0, .int .i64 (rd l0_2 0), .int .i64 (wrap64 ((rd (rd_L1 l1 0) (rd l0_2 0)) + (rd (rd_L1 l1 1) (rd l0_2 0))))] (by rfl) rfl rfl (by (try simp only [List.map_toArray, List.map_cons, List.map_nil]); first | done | rfl | (simp only [List.length_drop, List.length_take]; rfl)) ?_
              with_reducible refine (fullerref11_with.calls _ _ (rd_L1 l1 0) (rd l0_2 0) (wrap64 ((rd (rd_L1 l1 0) (rd l0_2 0)) + (rd (rd_L1 l1 1) (rd l0_2 0)))) t417 _ ?side1 ?side2 A69.out).mono ?_
              (case side1 => exact mvC_ ((Kd.C_below HR386_0.out HB.out)))
              (case side2 => exact HC386_0.out)
              rintro e w72 ⟨v418, rfl, ho0, hb⟩
              refine ⟨_, rfl, ?_⟩
              have HO419 := Aside0.mk (Kd.R_lower (Kd.R_newM (M := fun k_ => (w.heap.size ≤ k_)) ho0 (below_size (bq1_ HB.out GE385.out)) (fun k_ h_ => h_)) (below_size (bq1_ HB.out GE385.out)))
              replace BK385 := Aside0.mk (blk_below (g := gb385) (o := .cells #[.int .i64 a0_0, .slice A0_1 l0_1.length c0_1, .slice (some ad399) l0_2.length c0_2] 25 (0, 0)) (mvK_ BK385.out) hb)
              replace HB := Aside0.mk (below_step (bq1_ HB.out GE385.out) hb)
              (try clear hb)
              (try clear hb2)
              (try clear hk)
              (try clear hi)
              (try clear ho0)
              obtain ⟨Ao73, co73, eo73⟩ := Kd.R_slice HO419.out
              (first | subst eo73 | (injection eo73 with f1_ f2_ f3_; have f4_ := f1_.symm; have f5_ := f3_.symm; clear f1_ f2_ f3_; subst f4_; subst f5_))
              refine hK.out _ _ ⟨((HB.out.cell (World.block_lt_of_cell? w _ hw415_0)).trans hw415_0), ((HB.out.cell (World.block_lt_of_cell? w _ hw416_0)).trans hw416_0)⟩ (fun hHeld => ?_)
              clear hK K
              refine norm_ (a' := ?_) ?_ ?_
              rotate_left
              ·show Act.put _ (some 120) _ = _
               simp only [Act.put, sA_, sB_, sC_, i64_w, i32_w]
               rfl
              refine one_ (i := 12) (N := some 121) L30_35 rfl rfl (one_of HT_.out (by kernel_rfl)) (by decide) (fun K hK => ?_)
              refine goes_ Try.func28 (by kernel_rfl) rfl #[.slice Ao73 t417.length co73, .bool true] (by rfl) rfl rfl (by (try simp only [List.map_toArray, List.map_cons, List.map_nil]); first | done | rfl | (simp only [List.length_drop, List.length_take]; rfl)) ?_
              with_reducible refine (fullerref11_told.calls kj53 (fun k_ => some k_ = (.slice Ao73 t417.length co73 : Value).ownBlock) _ _ t417 true t420 t423 _ ?side1 A70.out).mono ?_
              (case side1 => exact Kd.R_V (Kd.R_tight rfl (Kd.R_types (HO419.out) BK385.out (by decide))))
              rintro e w74 ⟨v421, rfl, ho0, hb⟩
              refine ⟨_, rfl, ?_⟩
              have HO422 := Aside0.mk (Kd.V_lower (Kd.V_mono (ok' := fun k_ => (w.heap.size ≤ k_) ∧ k_ ≠ gb385) ho0 (fun k_ hk_ => ⟨Or.elim hk_ (fun hs_ => ((Kd.R_types (HO419.out) BK385.out (by decide)).1 k_ hs_.symm).1.1) (fun hn_ => (Nat.le_trans (below_size (bq1_ HB.out GE385.out)) hn_)), Or.elim hk_ (fun hs_ => ((Kd.R_types (HO419.out) BK385.out (by decide)).1 k_ hs_.symm).2) (fun hn_ => (Kd.freshB (g := gb385) (o := .cells #[.int .i64 a0_0, .slice A0_1 l0_1.length c0_1, .slice (some ad399) l0_2.length c0_2] 25 (0, 0)) (mvK_ BK385.out) k_ hn_))⟩)) (below_size (bq1_ HB.out GE385.out)))
              replace HO419 := Aside0.mk (Kd.R_below (mvR_ HO419.out) hb)
              replace BK385 := Aside0.mk (blk_below (g := gb385) (o := .cells #[.int .i64 a0_0, .slice A0_1 l0_1.length c0_1, .slice (some ad399) l0_2.length c0_2] 25 (0, 0)) (mvK_ BK385.out) hb)
              replace HB := Aside0.mk (below_step (bq1_ HB.out GE385.out) hb)
              (try clear hb)
              (try clear hb2)
              (try clear hk)
              (try clear hi)
              (try clear ho0)
              refine hK.out _ _ ⟨((HB.out.cell (World.block_lt_of_cell? w _ hw415_0)).trans hw415_0), ((HB.out.cell (World.block_lt_of_cell? w _ hw416_0)).trans hw416_0)⟩ (fun hHeld => ?_)
              clear hK K
              refine norm_ (a' := ?_) ?_ ?_
              rotate_left
              ·show Act.put _ (some 121) _ = _
               simp only [Act.put, sA_, sB_, sC_, i64_w, i32_w]
               rfl
              refine pu_ 13 (some 122) L30_14 HT_ ?_
              refine pu_ 14 (some 123) L30_15 HT_ ?_
              refine pu_ 15 (some 4) L30_16 HT_ ?_
              refine pu_ 16 (some 5) L30_17 HT_ ?_
              refine done_ (done_of HT_.out (by kernel_rfl)) ?_
              try go_wp2
              go_ret2
              exact ⟨_, by first | rfl | (simp <;> rfl) | (simp [*] <;> rfl), by (with_reducible repeat (first | apply Kd.V_alloc | apply Kd.V_drewN | apply Kd.V_drew)); exact Kd.V_mono HO422.out (fun _ hk => hk.1), bq1_ HB.out GE385.out⟩
             ·rw [if_neg c68] at H
              exact absurd H (by simp)
            ·rw [if_neg c67] at H
             exact absurd H (by simp)
           ·rw [if_neg c66] at H
            exact absurd H (by simp)
       ·rw [if_neg c53] at H
        exact absurd H (by simp)
      ·rw [if_neg c52] at H
       have c52b0 : (a0_0 == 43) = false := beq_eq_false_iff_ne.mpr c52
       have c52b1 : (a0_0 != 43) = true := bne_iff_ne.mpr c52
       replace H := Option.bind_eq_some_iff.mp H
       obtain ⟨t424, A750, H⟩ := H
       replace H : (some (t424, 0)) = some (r1, r2) := H
       have A75 := Aside0.mk A750
       clear A750
       simp only [Option.some.injEq, Prod.mk.injEq] at H
       obtain ⟨rfl, rfl⟩ := H
       go_enter Try.func30, Try.ntmps30
       go_wp2_with (first | ((with_reducible refine gate_dst (N := 2) rfl ?_); (try (refine gate_guard (by rfl) ?_; dsimp only)); refine box_event ?hg (N := 2) ?hd (cs := #[.int .i64 a0_0, .slice A0_1 l0_1.length c0_1, .slice A0_2 l0_2.length c0_2]) (t := 25) ?hr ?_; (case hd => rfl); (case hg => rfl); (case hr => first | (go_simp; done) | (go_simp; rfl)); intro gb385 hg w76 hbox hb; have BK385 := Aside0.mk (hbox); have GW385 := Aside0.mk ((by rw [hg]; exact (below_size (bq0_ HB.out)) : w.heap.size ≤ gb385)); have GE385 := Aside0.mk ((by rw [hg]; exact (below_size (bq0_ HB.out)) : w.heap.size ≤ gb385)); replace HB := Aside0.mk (below_step (bq0_ HB.out) hb); clear hb hbox hg; have p386 : 0 ≤ (0 : Int) := (by omega); have q386 : 0 < (l1.length : Int) := od_; obtain ⟨ad386, A386_0, c386_0, e386, hx386_0, hl386_0, hi386_0⟩ := at_L1 HR1.out 0 p386 q386; cases e386; have qi386 : (0 < l1.length) = True := eq_true (by omega); (try rw [show ((0 : Int)).toNat = 0 from rfl] at hx386_0); (try rw [Addr.add_zero'] at hx386_0); replace hx386_0 := hb_ HB hx386_0; have HR386_0 := Aside0.mk hi386_0; have HC386_0 := Aside0.mk hl386_0; clear hi386_0 hl386_0; replace p386 := eq_true p386; replace q386 := eq_true q386; have hcz77_0 := hc_ BK385 0; have hcz77_1 := hc_ BK385 1; have hcz77_2 := hc_ BK385 2; have hfz77_0 := blk_frozen BK385.out 0; have hfz77_1 := blk_frozen BK385.out 1; have hfz77_2 := blk_frozen BK385.out 2; have p399 : 0 ≤ (0 : Int) := (by omega); have q399 : 0 < (l0_2.length : Int) := od_; obtain ⟨ad399, e399, hx399_0⟩ := Kd.at_int HR0_2.out 0 p399 q399; cases e399; have qi399 : (0 < l0_2.length) = True := eq_true (by omega); (try rw [show ((0 : Int)).toNat = 0 from rfl] at hx399_0); (try rw [Addr.add_zero'] at hx399_0); replace hx399_0 := hb_ HB hx399_0; replace p399 := eq_true p399; replace q399 := eq_true q399) | ((with_reducible refine gate_callee (f := 55) rfl ?_); refine gL_ (some 54) Try.func55 #[.slice A386_0 (rd_L1 l1 0).length c386_0, .int .i64 (rd l0_2 0)] ?_; (with_reducible refine (fullerref11_axis.calls _ _ (rd_L1 l1 0) (rd l0_2 0) true _ ?side1 ?side2 A32.out).mono ?_); (case side1 => exact mvC_ ((Kd.C_below HR386_0.out HB.out))); (case side2 => exact HC386_0.out); rintro e w' ⟨rfl, ⟨nd, rfl⟩⟩; refine ⟨_, rfl, ?_⟩) | ((with_reducible refine gate_callee (f := 57) rfl ?_); refine gL_ (some 126) Try.func57 #[.slice A386_0 (rd_L1 l1 0).length c386_0, .int .i64 (rd l0_2 0)] ?_; (with_reducible refine (fullerref11_without.calls _ _ (rd_L1 l1 0) (rd l0_2 0) t424 _ ?side1 ?side2 A75.out).mono ?_); (case side1 => repeat (first | exact (Kd.C_below HR386_0.out (bq1_ HB.out GE385.out)) | (with_reducible refine Kd.C_alloc ?_ _) | (with_reducible refine Kd.C_drewN ?_ _) | (with_reducible refine Kd.C_drew ?_))); (case side2 => exact HC386_0.out); rintro e w78 ⟨v425, rfl, ho0, hb⟩; refine ⟨_, rfl, ?_⟩; have HO426 := Aside0.mk (Kd.R_lower (Kd.R_newM (M := fun k_ => (w.heap.size ≤ k_)) ho0 (below_size (bq1_ HB.out GE385.out)) (fun k_ h_ => h_)) (below_size (bq1_ HB.out GE385.out))); replace BK385 := Aside0.mk (blk_below (g := gb385) (o := .cells #[.int .i64 a0_0, .slice A0_1 l0_1.length c0_1, .slice (some ad399) l0_2.length c0_2] 25 (0, 0)) (mvK_ BK385.out) hb); replace HB := Aside0.mk (below_step (bq1_ HB.out GE385.out) hb); (try clear hb); (try clear ho0)))
       go_ret2
       exact ⟨_, by first | rfl | (simp <;> rfl) | (simp [*] <;> rfl), Kd.R_V (by (with_reducible repeat (first | apply Kd.R_alloc | apply Kd.R_drewN | apply Kd.R_drew)); exact Kd.R_mono HO426.out (fun _ hk => hk.1)), bq1_ HB.out GE385.out⟩
    ·replace c33 := Bool.eq_false_iff.mpr c33
     subst c33
     have H1 : (some (([] : List Int), 20)) = some (r1, r2) := by rw [if_neg (show ¬ (false = true) by decide)] at H; exact H
     clear H
     have H := H1
     clear H1
     simp only [Option.some.injEq, Prod.mk.injEq] at H
     obtain ⟨rfl, rfl⟩ := H
     go_enter Try.func30, Try.ntmps30
     go_wp2_with (first | ((with_reducible refine gate_dst (N := 2) rfl ?_); (try (refine gate_guard (by rfl) ?_; dsimp only)); refine box_event ?hg (N := 2) ?hd (cs := #[.int .i64 a0_0, .slice A0_1 l0_1.length c0_1, .slice A0_2 l0_2.length c0_2]) (t := 25) ?hr ?_; (case hd => rfl); (case hg => rfl); (case hr => first | (go_simp; done) | (go_simp; rfl)); intro gb385 hg w79 hbox hb; have BK385 := Aside0.mk (hbox); have GW385 := Aside0.mk ((by rw [hg]; exact (below_size (bq0_ HB.out)) : w.heap.size ≤ gb385)); have GE385 := Aside0.mk ((by rw [hg]; exact (below_size (bq0_ HB.out)) : w.heap.size ≤ gb385)); replace HB := Aside0.mk (below_step (bq0_ HB.out) hb); clear hb hbox hg; have p386 : 0 ≤ (0 : Int) := (by omega); have q386 : 0 < (l1.length : Int) := od_; obtain ⟨ad386, A386_0, c386_0, e386, hx386_0, hl386_0, hi386_0⟩ := at_L1 HR1.out 0 p386 q386; cases e386; have qi386 : (0 < l1.length) = True := eq_true (by omega); (try rw [show ((0 : Int)).toNat = 0 from rfl] at hx386_0); (try rw [Addr.add_zero'] at hx386_0); replace hx386_0 := hb_ HB hx386_0; have HR386_0 := Aside0.mk hi386_0; have HC386_0 := Aside0.mk hl386_0; clear hi386_0 hl386_0; replace p386 := eq_true p386; replace q386 := eq_true q386; have hcz80_0 := hc_ BK385 0; have hcz80_1 := hc_ BK385 1; have hcz80_2 := hc_ BK385 2; have hfz80_0 := blk_frozen BK385.out 0; have hfz80_1 := blk_frozen BK385.out 1; have hfz80_2 := blk_frozen BK385.out 2; have p399 : 0 ≤ (0 : Int) := (by omega); have q399 : 0 < (l0_2.length : Int) := od_; obtain ⟨ad399, e399, hx399_0⟩ := Kd.at_int HR0_2.out 0 p399 q399; cases e399; have qi399 : (0 < l0_2.length) = True := eq_true (by omega); (try rw [show ((0 : Int)).toNat = 0 from rfl] at hx399_0); (try rw [Addr.add_zero'] at hx399_0); replace hx399_0 := hb_ HB hx399_0; replace p399 := eq_true p399; replace q399 := eq_true q399) | ((with_reducible refine gate_callee (f := 55) rfl ?_); refine gL_ (some 54) Try.func55 #[.slice A386_0 (rd_L1 l1 0).length c386_0, .int .i64 (rd l0_2 0)] ?_; (with_reducible refine (fullerref11_axis.calls _ _ (rd_L1 l1 0) (rd l0_2 0) false _ ?side1 ?side2 A32.out).mono ?_); (case side1 => exact mvC_ ((Kd.C_below HR386_0.out HB.out))); (case side2 => exact HC386_0.out); rintro e w' ⟨rfl, ⟨nd, rfl⟩⟩; refine ⟨_, rfl, ?_⟩))
     go_ret2
     exact ⟨_, by first | rfl | (simp <;> rfl) | (simp [*] <;> rfl), (Kd.V_nil _ _ _ _ _), bq1_ HB.out GE385.out⟩
   ·rw [if_neg c31] at H
    exact absurd H (by simp)
 ·rw [if_neg c3] at H
  exact absurd H (by simp)
end Go.Proofs.Ytalmgghhpgfgoaa.A
