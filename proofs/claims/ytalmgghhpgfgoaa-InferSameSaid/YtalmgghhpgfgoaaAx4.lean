/- Lean functions that answer as the Go functions do, and the proofs that they do; no conditions. Written by this session's own driver: a scratch copy of the kit's print with the session's additions (wip/xprint). -/
import Derived.Test.YtalmgghhpgfgoaaAx0
import Derived.Test.YtalmgghhpgfgoaaAx1
namespace Go.Proofs.Ytalmgghhpgfgoaa.A
open Go.RowKit Go.Proofs.YtalmgghhpgfgoaaW.PrintWords Go.Proofs.YtalmgghhpgfgoaaW.PrintLast Go.Proofs.YtalmgghhpgfgoaaW.PrintMore
attribute [local go_sem] max2_int min2_int max_two min_two max_three min_three max_four min_four   -- for this text's walks alone
set_option linter.unusedVariables false
set_option linter.unusedSimpArgs false

def L46_0 : Array Bool := #[false, false, false, false, false, false, false, false, false, false, false, false, false, false, false, false, false, false, false, false, false, false, false, false, false]
def L46_1 : Array Bool := #[true, false, false, false, false, false, false, false, false, false, false, false, false, false, false, false, false, false, false, false, false, false, false, false, false]
def L46_2 : Array Bool := #[true, true, false, false, false, false, false, false, false, false, false, false, false, false, false, false, false, false, false, false, false, false, false, false, false]
def L46_3 : Array Bool := #[true, true, true, false, false, false, false, false, false, false, false, false, false, false, false, false, false, false, false, false, false, false, false, false, false]
def L46_4 : Array Bool := #[true, true, true, true, false, false, false, false, false, false, false, false, false, false, false, false, false, false, false, false, false, false, false, false, false]
def L46_5 : Array Bool := #[true, true, true, true, true, false, false, false, false, false, false, false, false, false, false, false, false, false, false, false, false, false, false, false, false]
def L46_6 : Array Bool := #[true, true, true, true, true, true, false, false, false, false, false, false, false, false, false, false, false, false, false, false, false, false, false, false, false]
def L46_7 : Array Bool := #[true, true, true, true, true, true, true, false, false, false, false, false, false, false, false, false, false, false, false, false, false, false, false, false, false]
def L46_8 : Array Bool := #[true, true, true, true, true, true, true, true, false, false, false, false, false, false, false, false, false, false, false, false, false, false, false, false, false]
def L46_9 : Array Bool := #[true, true, true, true, true, true, true, true, true, false, false, false, false, false, false, false, false, false, false, false, false, false, false, false, false]
def L46_10 : Array Bool := #[true, true, true, true, true, true, true, true, true, true, false, false, false, false, false, false, false, false, false, false, false, false, false, false, false]
def L46_11 : Array Bool := #[true, true, true, true, true, true, true, true, true, true, true, false, false, false, false, false, false, false, false, false, false, false, false, false, false]
def L46_12 : Array Bool := #[true, true, true, true, true, true, true, true, true, true, true, true, false, false, false, false, false, false, false, false, false, false, false, false, false]
def L46_13 : Array Bool := #[true, true, true, true, true, true, true, true, true, true, true, true, true, false, false, false, false, false, false, false, false, false, false, false, false]
def L46_14 : Array Bool := #[true, true, true, true, true, true, true, true, true, true, true, true, true, true, false, false, false, false, false, false, false, false, false, false, false]
def L46_15 : Array Bool := #[true, true, true, true, true, true, true, true, true, true, true, true, true, true, true, false, false, false, false, false, false, false, false, false, false]
def L46_16 : Array Bool := #[true, true, true, true, true, true, true, true, true, true, true, true, true, true, true, false, false, false, true, false, false, false, false, false, false]
def L46_17 : Array Bool := #[true, true, true, true, true, true, true, true, true, true, true, true, true, true, true, false, false, false, true, true, false, false, false, false, false]
def L46_18 : Array Bool := #[true, true, true, true, true, true, true, true, true, true, true, true, true, true, true, true, false, false, true, true, false, false, false, false, false]
def L46_19 : Array Bool := #[true, true, true, true, true, true, true, true, true, true, true, true, true, true, true, true, true, false, true, true, false, false, false, false, false]
def L46_20 : Array Bool := #[true, true, true, true, true, true, true, true, true, true, true, true, true, true, true, true, true, true, true, true, false, false, false, false, false]
def L46_21 : Array Bool := #[true, true, true, true, true, true, true, true, true, true, true, true, true, true, true, true, true, true, true, true, true, false, false, false, false]
def L46_22 : Array Bool := #[true, true, true, true, true, true, true, true, true, true, true, true, true, true, true, true, true, true, true, true, true, true, false, false, false]
def L46_23 : Array Bool := #[true, true, true, true, true, true, true, true, true, true, true, true, true, true, true, true, true, true, true, true, true, true, true, false, false]
def L46_24 : Array Bool := #[true, true, true, true, true, true, true, true, true, true, true, true, true, true, true, true, true, true, true, true, true, true, true, true, false]
def L46_25 : Array Bool := #[true, true, true, true, true, true, true, true, true, true, true, true, true, true, true, true, true, true, true, true, true, true, true, true, true]
def L46_26 : Array Bool := #[false, false, false, false, false, false, false, false, false, false, false, false]
def L46_27 : Array Bool := #[true, false, false, false, false, false, false, false, false, false, false, false]
def L46_28 : Array Bool := #[true, true, false, false, false, false, false, false, false, false, false, false]
def L46_29 : Array Bool := #[true, true, false, false, false, true, false, false, false, false, false, false]
def L46_30 : Array Bool := #[true, true, false, false, false, true, true, false, false, false, false, false]
def L46_31 : Array Bool := #[true, true, true, false, false, true, true, false, false, false, false, false]
def L46_32 : Array Bool := #[true, true, true, true, false, true, true, false, false, false, false, false]
def L46_33 : Array Bool := #[true, true, true, true, true, true, true, false, false, false, false, false]
def L46_34 : Array Bool := #[true, true, true, true, true, true, true, true, false, false, false, false]
def L46_35 : Array Bool := #[true, true, true, true, true, true, true, true, true, false, false, false]
def L46_36 : Array Bool := #[true, true, true, true, true, true, true, true, true, true, false, false]
def L46_37 : Array Bool := #[true, true, true, true, true, true, true, true, true, true, true, false]
def L46_38 : Array Bool := #[true, true, true, true, true, true, true, true, true, true, true, true]
/-! ### infer_rules_6: function 46 -/
def infer_rules_6.f (k : Nat) (l0 : List (List Int)) (l1 : List Int) : Option (List Int × Bool) := if 0 < (l0.length : Int) then (if ((rd_L1 l0 0).length : Int) = 2 then (if 1 < (l0.length : Int) then (if ((rd_L1 l0 1).length : Int) = 2 then (if 1 < ((rd_L1 l0 0).length : Int) then (if 0 < ((rd_L1 l0 1).length : Int) then (if (rd (rd_L1 l0 0) 1) = (rd (rd_L1 l0 1) 0) then (if 0 < ((rd_L1 l0 0).length : Int) then (if 1 < ((rd_L1 l0 1).length : Int) then ((some (([rd (rd_L1 l0 0) 0, rd (rd_L1 l0 1) 1] : List Int) : List Int)).bind fun y151 => ((shape_Check.f k y151).bind fun t154 => (some (y151, t154)))) else (none)) else (none)) else (some (([] : List Int), false))) else (none)) else (none)) else (some (([] : List Int), false))) else (none)) else (some (([] : List Int), false))) else (none)
theorem infer_rules_6.mono : ∀ a0 a1 k, LeO (infer_rules_6.f k a0 a1) (infer_rules_6.f (k + 1) a0 a1) := by
 intro a0 a1 k
 unfold infer_rules_6.f
 repeat' first
   | (with_reducible exact shape_Check.mono _ _)
   | (with_reducible exact LeO.refl _)
   | (with_reducible exact LeO.none _)
   | (with_reducible refine LeO.ite ?_ ?_)
   | (with_reducible refine LeO.bind ?_ (fun _ => ?_))
   | exact shape_Check.mono _ _
   | exact LeO.none _
   | refine LeO.ite ?_ ?_
   | refine LeO.bind ?_ (fun _ => ?_)
def infer_rules_6.T1 : Bool × List (List Nat × List Nat) := (true, [([], []), ([0], [0]), ([1], [1]), ([2], [2]), ([3], [3]), ([4], [4]), ([5], [5]), ([6, 5], [5, 6]), ([7, 5], [5, 7]), ([8, 5], [5, 8]), ([9, 5], [5, 9]), ([5, 10], [5, 10]), ([11, 5], [11]), ([12], [12]), ([13, 12], [12, 13]), ([14, 12], [12, 14]), ([15, 12], [12, 15]), ([16, 12], [12, 16]), ([12], [12]), ([18, 12], [12, 18]), ([19, 12], [12, 19]), ([20, 12], [12, 20]), ([21, 12], [12, 21]), ([17, 22, 12], [12, 17, 22]), ([12, 23], [12, 23])])
def infer_rules_6.B1 : List Nat := [0, 1, 3, 7, 15, 31, 63, 127, 255, 511, 1023, 2047, 4095, 8191, 16383, 32767, 65535, 131071, 8191, 270335, 794623, 1843199, 3940351, 8388607, 16777215]
theorem infer_rules_6.tab1 : rtab .any (opsOf Try.f46 1) = infer_rules_6.T1 := by kernel_rfl
theorem infer_rules_6.bits1 : waitsOk infer_rules_6.T1.2 infer_rules_6.B1 = true := by kernel_rfl
def infer_rules_6.T2 : Bool × List (List Nat × List Nat) := (true, [([], []), ([0], [0]), ([1], [1]), ([2], [2]), ([3], [3]), ([], []), ([5], [5]), ([6], [6]), ([7], [7]), ([8], [8]), ([4, 9], [4, 9]), ([10, 0, 1, 2, 3, 4, 5, 6, 7, 8, 9, 10], [10])])
def infer_rules_6.B2 : List Nat := [0, 1, 3, 7, 15, 0, 32, 96, 224, 480, 1023, 2047]
theorem infer_rules_6.tab2 : rtab .any (opsOf Try.f46 2) = infer_rules_6.T2 := by kernel_rfl
theorem infer_rules_6.bits2 : waitsOk infer_rules_6.T2.2 infer_rules_6.B2 = true := by kernel_rfl
set_option maxHeartbeats 8000000 in
set_option maxRecDepth 100000 in
theorem infer_rules_6.calls (k : Nat) (A0 : Option Addr) (c0 : Nat) (l0 : List (List Int)) (A1 : Option Addr) (c1 : Nat) (l1 : List Int) (r1 : List Int) (r2 : Bool) (w : World) (hr0 : Kd.C (Kd.slice 3 (Kd.int .i64)) w A0 l0.length l0) (hc0 : l0.length ≤ c0) (hr1 : Kd.C (Kd.int .i64) w A1 l1.length l1) (hc1 : l1.length ≤ c1) (h : infer_rules_6.f k l0 l1 = some (r1, r2)) :
  Calls Try.prog 46 #[.slice A0 l0.length c0, .slice A1 l1.length c1] w fun e w' => ∃ v0_ : Value, e = .returned (.tuple #[v0_, .bool r2]) ∧ Kd.R (Kd.int .i64) 3 w' w.heap.size (fun _ => True) v0_ r1 ∧ Below w.heap.size w w' := by
 have HR0 := Aside0.mk hr0
 have HC0 := Aside0.mk hc0
 clear hr0 hc0
 have HR1 := Aside0.mk hr1
 have HC1 := Aside0.mk hc1
 clear hr1 hc1
 have HB := Aside0.mk (Below.refl w.heap.size w)
 have H : (if 0 < (l0.length : Int) then (if ((rd_L1 l0 0).length : Int) = 2 then (if 1 < (l0.length : Int) then (if ((rd_L1 l0 1).length : Int) = 2 then (if 1 < ((rd_L1 l0 0).length : Int) then (if 0 < ((rd_L1 l0 1).length : Int) then (if (rd (rd_L1 l0 0) 1) = (rd (rd_L1 l0 1) 0) then (if 0 < ((rd_L1 l0 0).length : Int) then (if 1 < ((rd_L1 l0 1).length : Int) then ((some (([rd (rd_L1 l0 0) 0, rd (rd_L1 l0 1) 1] : List Int) : List Int)).bind fun y151 => ((shape_Check.f k y151).bind fun t154 => (some (y151, t154)))) else (none)) else (none)) else (some (([] : List Int), false))) else (none)) else (none)) else (some (([] : List Int), false))) else (none)) else (some (([] : List Int), false))) else (none)) = some (r1, r2) := h
 clear h
 by_cases c3 : 0 < (l0.length : Int)
 ·rw [if_pos c3] at H
  have c3b0 : decide (0 < (l0.length : Int)) = true := decide_eq_true c3
  have c3b1 : decide (0 < l0.length) = true := decide_eq_true (by omega)
  clear c3
  by_cases c4 : ((rd_L1 l0 0).length : Int) = 2
  ·rw [if_pos c4] at H
   obtain ⟨c4b0, c4b1⟩ := eqT_ c4
   clear c4
   by_cases c5 : 1 < (l0.length : Int)
   ·rw [if_pos c5] at H
    have c5b0 : decide (1 < (l0.length : Int)) = true := decide_eq_true c5
    have c5b1 : decide (1 < l0.length) = true := decide_eq_true (by omega)
    clear c5
    by_cases c6 : ((rd_L1 l0 1).length : Int) = 2
    ·rw [if_pos c6] at H
     obtain ⟨c6b0, c6b1⟩ := eqT_ c6
     clear c6
     by_cases c7 : 1 < ((rd_L1 l0 0).length : Int)
     ·rw [if_pos c7] at H
      have c7b0 : decide (1 < ((rd_L1 l0 0).length : Int)) = true := decide_eq_true c7
      have c7b1 : decide (1 < (rd_L1 l0 0).length) = true := decide_eq_true (by omega)
      clear c7
      by_cases c8 : 0 < ((rd_L1 l0 1).length : Int)
      ·rw [if_pos c8] at H
       have c8b0 : decide (0 < ((rd_L1 l0 1).length : Int)) = true := decide_eq_true c8
       have c8b1 : decide (0 < (rd_L1 l0 1).length) = true := decide_eq_true (by omega)
       clear c8
       by_cases c9 : (rd (rd_L1 l0 0) 1) = (rd (rd_L1 l0 1) 0)
       ·rw [if_pos c9] at H
        obtain ⟨c9b0, c9b1⟩ := eqT_ c9
        clear c9
        by_cases c10 : 0 < ((rd_L1 l0 0).length : Int)
        ·rw [if_pos c10] at H
         have c10b0 : decide (0 < ((rd_L1 l0 0).length : Int)) = true := decide_eq_true c10
         have c10b1 : decide (0 < (rd_L1 l0 0).length) = true := decide_eq_true (by omega)
         clear c10
         by_cases c11 : 1 < ((rd_L1 l0 1).length : Int)
         ·rw [if_pos c11] at H
          have c11b0 : decide (1 < ((rd_L1 l0 1).length : Int)) = true := decide_eq_true c11
          have c11b1 : decide (1 < (rd_L1 l0 1).length) = true := decide_eq_true (by omega)
          clear c11
          obtain ⟨y151, hy151⟩ : ∃ y_ : List Int, y_ = (([rd (rd_L1 l0 0) 0, rd (rd_L1 l0 1) 1] : List Int)) := ⟨_, rfl⟩
          replace H : ((shape_Check.f k y151).bind fun t154 => (some (y151, t154))) = some (r1, r2) := by first | (rw [hy151]; with_reducible exact H) | (have H2_ := (Option.bind_some _ _).symm.trans H; rw [hy151]; with_reducible exact H2_) | (have H2_ := (Option.bind_some _ _).symm.trans H; with_reducible exact H2_) | with_reducible exact H | (rw [hy151]; exact H) | exact H
          have Ny151 := Aside0.mk hy151
          clear hy151
          replace H := Option.bind_eq_some_iff.mp H
          obtain ⟨t154, A120, H⟩ := H
          replace H : (some (y151, t154)) = some (r1, r2) := H
          have A12 := Aside0.mk A120
          clear A120
          simp only [Option.some.injEq, Prod.mk.injEq] at H
          obtain ⟨rfl, rfl⟩ := H
          go_enter Try.func46, Try.ntmps46
          try go_wp2
          replace HB := Aside0.mk (below_drew1 HB.out)
          have p141 : 0 ≤ (0 : Int) := (by omega)
          have q141 : 0 < (l0.length : Int) := od_
          obtain ⟨ad141, A141_0, c141_0, e141, hx141_0, hl141_0, hi141_0⟩ := at_L1 HR0.out 0 p141 q141
          have hw141_0 := hx141_0
          (try rw [show ((0 : Int)).toNat = 0 from rfl] at hw141_0)
          (try rw [show 0 * 1 = 0 from rfl] at hw141_0)
          (try rw [Addr.add_zero'] at hw141_0)
          cases e141
          have qi141 : (0 < l0.length) = True := eq_true (by omega)
          (try rw [show ((0 : Int)).toNat = 0 from rfl] at hx141_0)
          (try rw [Addr.add_zero'] at hx141_0)
          replace hx141_0 := (HB.out.cell (World.block_lt_of_cell? w _ hx141_0)).trans hx141_0
          have HR141_0 := Aside0.mk hi141_0
          have HC141_0 := Aside0.mk hl141_0
          clear hi141_0 hl141_0
          replace p141 := eq_true p141
          replace q141 := eq_true q141
          have p142 : 0 ≤ (1 : Int) := (by omega)
          have q142 : 1 < (l0.length : Int) := od_
          obtain ⟨ad142, A142_0, c142_0, e142, hx142_0, hl142_0, hi142_0⟩ := at_L1 HR0.out 1 p142 q142
          have hw142_0 := hx142_0
          (try rw [show ((1 : Int)).toNat = 1 from rfl] at hw142_0)
          (try rw [show 1 * 1 = 1 from rfl] at hw142_0)
          (try simp only [Nat.reduceMul, Nat.reduceEqDiff, Go.Addr.add, ↓reduceIte] at hw142_0)
          obtain rfl : ad141 = ad142 := (by injection e142)
          (try simp only [show (1 : Int).toNat = 1 from rfl, Nat.reduceMul, Nat.reduceEqDiff, Go.Addr.add, ↓reduceIte] at hx142_0)
          have qi142 : (1 < l0.length) = True := eq_true (by omega)
          (try rw [show ((1 : Int)).toNat = 1 from rfl] at hx142_0)
          replace hx142_0 := (HB.out.cell (World.block_lt_of_cell? w _ hx142_0)).trans hx142_0
          have HR142_0 := Aside0.mk hi142_0
          have HC142_0 := Aside0.mk hl142_0
          clear hi142_0 hl142_0
          replace p142 := eq_true p142
          replace q142 := eq_true q142
          have p143 : 0 ≤ (0 : Int) := (by omega)
          have q143 : 0 < (l0.length : Int) := od_
          obtain ⟨ad143, A143_0, c143_0, e143, hx143_0, hl143_0, hi143_0⟩ := at_L1 HR0.out 0 p143 q143
          have hw143_0 := hx143_0
          (try rw [show ((0 : Int)).toNat = 0 from rfl] at hw143_0)
          (try rw [show 0 * 1 = 0 from rfl] at hw143_0)
          (try rw [Addr.add_zero'] at hw143_0)
          obtain rfl : ad141 = ad143 := (by injection e143)
          have qi143 : (0 < l0.length) = True := eq_true (by omega)
          (try rw [show ((0 : Int)).toNat = 0 from rfl] at hx143_0)
          (try rw [Addr.add_zero'] at hx143_0)
          replace hx143_0 := (HB.out.cell (World.block_lt_of_cell? w _ hx143_0)).trans hx143_0
          have HR143_0 := Aside0.mk hi143_0
          have HC143_0 := Aside0.mk hl143_0
          clear hi143_0 hl143_0
          replace p143 := eq_true p143
          replace q143 := eq_true q143
          have ea_ := Option.some.inj (hx141_0.symm.trans hx143_0)
          injection ea_ with ea_ en_ ec_
          subst ea_
          subst ec_
          clear en_
          have p144 : 0 ≤ (1 : Int) := (by omega)
          have q144 : 1 < ((rd_L1 l0 0).length : Int) := od_
          obtain ⟨ad144, e144, hx144_0⟩ := Kd.at_int HR143_0.out 1 p144 q144
          have hw144_0 := hx144_0
          (try rw [show ((1 : Int)).toNat = 1 from rfl] at hw144_0)
          (try rw [show 1 * 1 = 1 from rfl] at hw144_0)
          (try simp only [Nat.reduceMul, Nat.reduceEqDiff, Go.Addr.add, ↓reduceIte] at hw144_0)
          cases e144
          (try simp only [show (1 : Int).toNat = 1 from rfl, Nat.reduceMul, Nat.reduceEqDiff, Go.Addr.add, ↓reduceIte] at hx144_0)
          have qi144 : (1 < (rd_L1 l0 0).length) = True := eq_true (by omega)
          (try rw [show ((1 : Int)).toNat = 1 from rfl] at hx144_0)
          replace hx144_0 := (HB.out.cell (World.block_lt_of_cell? w _ hx144_0)).trans hx144_0
          replace p144 := eq_true p144
          replace q144 := eq_true q144
          have p145 : 0 ≤ (1 : Int) := (by omega)
          have q145 : 1 < (l0.length : Int) := od_
          obtain ⟨ad145, A145_0, c145_0, e145, hx145_0, hl145_0, hi145_0⟩ := at_L1 HR0.out 1 p145 q145
          have hw145_0 := hx145_0
          (try rw [show ((1 : Int)).toNat = 1 from rfl] at hw145_0)
          (try rw [show 1 * 1 = 1 from rfl] at hw145_0)
          (try simp only [Nat.reduceMul, Nat.reduceEqDiff, Go.Addr.add, ↓reduceIte] at hw145_0)
          obtain rfl : ad141 = ad145 := (by injection e145)
          (try simp only [show (1 : Int).toNat = 1 from rfl, Nat.reduceMul, Nat.reduceEqDiff, Go.Addr.add, ↓reduceIte] at hx145_0)
          have qi145 : (1 < l0.length) = True := eq_true (by omega)
          (try rw [show ((1 : Int)).toNat = 1 from rfl] at hx145_0)
          replace hx145_0 := (HB.out.cell (World.block_lt_of_cell? w _ hx145_0)).trans hx145_0
          have HR145_0 := Aside0.mk hi145_0
          have HC145_0 := Aside0.mk hl145_0
          clear hi145_0 hl145_0
          replace p145 := eq_true p145
          replace q145 := eq_true q145
          have ea_ := Option.some.inj (hx142_0.symm.trans hx145_0)
          injection ea_ with ea_ en_ ec_
          subst ea_
          subst ec_
          clear en_
          have p146 : 0 ≤ (0 : Int) := (by omega)
          have q146 : 0 < ((rd_L1 l0 1).length : Int) := od_
          obtain ⟨ad146, e146, hx146_0⟩ := Kd.at_int HR145_0.out 0 p146 q146
          have hw146_0 := hx146_0
          (try rw [show ((0 : Int)).toNat = 0 from rfl] at hw146_0)
          (try rw [show 0 * 1 = 0 from rfl] at hw146_0)
          (try rw [Addr.add_zero'] at hw146_0)
          cases e146
          have qi146 : (0 < (rd_L1 l0 1).length) = True := eq_true (by omega)
          (try rw [show ((0 : Int)).toNat = 0 from rfl] at hx146_0)
          (try rw [Addr.add_zero'] at hx146_0)
          replace hx146_0 := (HB.out.cell (World.block_lt_of_cell? w _ hx146_0)).trans hx146_0
          replace p146 := eq_true p146
          replace q146 := eq_true q146
          refine start_ (n := 25) (S := fun w' => w'.cell? ad141 = some (.slice (some ad144) (rd_L1 l0 0).length c141_0) ∧ w'.cell? ⟨ad141.block, ad141.off + 1, none⟩ = some (.slice (some ad146) (rd_L1 l0 1).length c142_0) ∧ w'.cell? ad141 = some (.slice (some ad144) (rd_L1 l0 0).length c141_0) ∧ w'.cell? ⟨ad144.block, ad144.off + 1, none⟩ = some (.int .i64 (rd (rd_L1 l0 0) 1)) ∧ w'.cell? ⟨ad141.block, ad141.off + 1, none⟩ = some (.slice (some ad146) (rd_L1 l0 1).length c142_0) ∧ w'.cell? ad146 = some (.int .i64 (rd (rd_L1 l0 1) 0))) (ds := []) L46_0 (by kernel_rfl) rfl rfl ⟨((HB.out.cell (World.block_lt_of_cell? w _ hw141_0)).trans hw141_0), ((HB.out.cell (World.block_lt_of_cell? w _ hw142_0)).trans hw142_0), ((HB.out.cell (World.block_lt_of_cell? w _ hw143_0)).trans hw143_0), ((HB.out.cell (World.block_lt_of_cell? w _ hw144_0)).trans hw144_0), ((HB.out.cell (World.block_lt_of_cell? w _ hw145_0)).trans hw145_0), ((HB.out.cell (World.block_lt_of_cell? w _ hw146_0)).trans hw146_0)⟩ (fun hHeld => ?_); refine with_tabW infer_rules_6.tab1 infer_rules_6.bits1 (fun HT_ HW_ => ?_)
          generalize w.drew = w13 at HB HR141_0 HR142_0 HR143_0 HR145_0 hx141_0 hx142_0 hx143_0 hx144_0 hx145_0 hx146_0 hHeld ⊢
          refine pu_ 0 (some 6) L46_1 HT_ ?_
          refine pu_ 1 (some 7) L46_2 HT_ ?_
          refine ta_ 2 (some 8) L46_3 HT_ HW_ hHeld ?_ (hy := by rintro w' ⟨s0, s1, s2, s3, s4, s5⟩; go_simp; with_reducible rfl)
          refine pu_ 3 (some 9) L46_4 HT_ ?_
          refine pu_ 4 (some 10) L46_5 HT_ ?_
          refine pu_ 5 (some 11) L46_6 HT_ ?_
          refine pu_ 6 (some 12) L46_7 HT_ ?_
          refine pu_ 7 (some 13) L46_8 HT_ ?_
          refine ta_ 8 (some 14) L46_9 HT_ HW_ hHeld ?_ (hy := by rintro w' ⟨s0, s1, s2, s3, s4, s5⟩; go_simp; with_reducible rfl)
          refine pu_ 9 (some 15) L46_10 HT_ ?_
          refine pu_ 10 (some 16) L46_11 HT_ ?_
          refine pu_ 11 (some 17) L46_12 HT_ ?_
          refine pu_ 12 (some 18) L46_13 HT_ ?_
          refine pu_ 13 (some 19) L46_14 HT_ ?_
          refine pu_ 14 (some 20) L46_15 HT_ ?_
          refine pu_ 18 (some 24) L46_16 HT_ ?_
          refine pu_ 19 (some 25) L46_17 HT_ ?_
          refine ta_ 15 (some 21) L46_18 HT_ HW_ hHeld ?_ (hy := by rintro w' ⟨s0, s1, s2, s3, s4, s5⟩; go_simp; with_reducible rfl)
          refine pu_ 16 (some 22) L46_19 HT_ ?_
          refine ta_ 17 (some 23) L46_20 HT_ HW_ hHeld ?_ (hy := by rintro w' ⟨s0, s1, s2, s3, s4, s5⟩; go_simp; with_reducible rfl)
          refine ta_ 20 (some 26) L46_21 HT_ HW_ hHeld ?_ (hy := by rintro w' ⟨s0, s1, s2, s3, s4, s5⟩; go_simp; with_reducible rfl)
          refine pu_ 21 (some 27) L46_22 HT_ ?_
          refine ta_ 22 (some 28) L46_23 HT_ HW_ hHeld ?_ (hy := by rintro w' ⟨s0, s1, s2, s3, s4, s5⟩; go_simp; with_reducible rfl)
          refine pu_ 23 (some 29) L46_24 HT_ ?_
          refine pu_ 24 (some 30) L46_25 HT_ ?_
          refine done_ (done_of HT_.out (by kernel_rfl)) ?_
          try go_wp2
          replace HB := Aside0.mk (below_drew1 HB.out)
          have p147 : 0 ≤ (0 : Int) := (by omega)
          have q147 : 0 < (l0.length : Int) := od_
          obtain ⟨ad147, A147_0, c147_0, e147, hx147_0, hl147_0, hi147_0⟩ := at_L1 HR0.out 0 p147 q147
          have hw147_0 := hx147_0
          (try rw [show ((0 : Int)).toNat = 0 from rfl] at hw147_0)
          (try rw [show 0 * 1 = 0 from rfl] at hw147_0)
          (try rw [Addr.add_zero'] at hw147_0)
          obtain rfl : ad141 = ad147 := (by injection e147)
          have qi147 : (0 < l0.length) = True := eq_true (by omega)
          (try rw [show ((0 : Int)).toNat = 0 from rfl] at hx147_0)
          (try rw [Addr.add_zero'] at hx147_0)
          replace hx147_0 := (HB.out.cell (World.block_lt_of_cell? w _ hx147_0)).trans hx147_0
          have HR147_0 := Aside0.mk hi147_0
          have HC147_0 := Aside0.mk hl147_0
          clear hi147_0 hl147_0
          replace p147 := eq_true p147
          replace q147 := eq_true q147
          have p148 : 0 ≤ (0 : Int) := (by omega)
          have q148 : 0 < ((rd_L1 l0 0).length : Int) := od_
          obtain ⟨ad148, e148, hx148_0⟩ := Kd.at_int HR147_0.out 0 p148 q148
          have hw148_0 := hx148_0
          (try rw [show ((0 : Int)).toNat = 0 from rfl] at hw148_0)
          (try rw [show 0 * 1 = 0 from rfl] at hw148_0)
          (try rw [Addr.add_zero'] at hw148_0)
          cases e148
          have qi148 : (0 < (rd_L1 l0 0).length) = True := eq_true (by omega)
          (try rw [show ((0 : Int)).toNat = 0 from rfl] at hx148_0)
          (try rw [Addr.add_zero'] at hx148_0)
          replace hx148_0 := (HB.out.cell (World.block_lt_of_cell? w _ hx148_0)).trans hx148_0
          replace p148 := eq_true p148
          replace q148 := eq_true q148
          have p149 : 0 ≤ (1 : Int) := (by omega)
          have q149 : 1 < (l0.length : Int) := od_
          obtain ⟨ad149, A149_0, c149_0, e149, hx149_0, hl149_0, hi149_0⟩ := at_L1 HR0.out 1 p149 q149
          have hw149_0 := hx149_0
          (try rw [show ((1 : Int)).toNat = 1 from rfl] at hw149_0)
          (try rw [show 1 * 1 = 1 from rfl] at hw149_0)
          (try simp only [Nat.reduceMul, Nat.reduceEqDiff, Go.Addr.add, ↓reduceIte] at hw149_0)
          obtain rfl : ad141 = ad149 := (by injection e149)
          (try simp only [show (1 : Int).toNat = 1 from rfl, Nat.reduceMul, Nat.reduceEqDiff, Go.Addr.add, ↓reduceIte] at hx149_0)
          have qi149 : (1 < l0.length) = True := eq_true (by omega)
          (try rw [show ((1 : Int)).toNat = 1 from rfl] at hx149_0)
          replace hx149_0 := (HB.out.cell (World.block_lt_of_cell? w _ hx149_0)).trans hx149_0
          have HR149_0 := Aside0.mk hi149_0
          have HC149_0 := Aside0.mk hl149_0
          clear hi149_0 hl149_0
          replace p149 := eq_true p149
          replace q149 := eq_true q149
          have p150 : 0 ≤ (1 : Int) := (by omega)
          have q150 : 1 < ((rd_L1 l0 1).length : Int) := od_
          obtain ⟨ad150, e150, hx150_0⟩ := Kd.at_int HR149_0.out 1 p150 q150
          have hw150_0 := hx150_0
          (try rw [show ((1 : Int)).toNat = 1 from rfl] at hw150_0)
          (try rw [show 1 * 1 = 1 from rfl] at hw150_0)
          (try simp only [Nat.reduceMul, Nat.reduceEqDiff, Go.Addr.add, ↓reduceIte] at hw150_0)
          cases e150
          (try simp only [show (1 : Int).toNat = 1 from rfl, Nat.reduceMul, Nat.reduceEqDiff, Go.Addr.add, ↓reduceIte] at hx150_0)
          have qi150 : (1 < (rd_L1 l0 1).length) = True := eq_true (by omega)
          (try rw [show ((1 : Int)).toNat = 1 from rfl] at hx150_0)
          replace hx150_0 := (HB.out.cell (World.block_lt_of_cell? w _ hx150_0)).trans hx150_0
          replace p150 := eq_true p150
          replace q150 := eq_true q150
          refine start_ (n := 12) (S := fun w' => w'.cell? ad141 = some (.slice (some ad148) (rd_L1 l0 0).length c147_0) ∧ w'.cell? ad148 = some (.int .i64 (rd (rd_L1 l0 0) 0)) ∧ w'.cell? ⟨ad141.block, ad141.off + 1, none⟩ = some (.slice (some ad150) (rd_L1 l0 1).length c149_0) ∧ w'.cell? ⟨ad150.block, ad150.off + 1, none⟩ = some (.int .i64 (rd (rd_L1 l0 1) 1))) (ds := []) L46_26 (by kernel_rfl) rfl rfl ⟨((HB.out.cell (World.block_lt_of_cell? w _ hw147_0)).trans hw147_0), ((HB.out.cell (World.block_lt_of_cell? w _ hw148_0)).trans hw148_0), ((HB.out.cell (World.block_lt_of_cell? w _ hw149_0)).trans hw149_0), ((HB.out.cell (World.block_lt_of_cell? w _ hw150_0)).trans hw150_0)⟩ (fun hHeld => ?_); refine with_tabW infer_rules_6.tab2 infer_rules_6.bits2 (fun HT_ HW_ => ?_)
          generalize w13.drew = w14 at HB HR147_0 HR149_0 hx147_0 hx148_0 hx149_0 hx150_0 hHeld ⊢
          refine pu_ 0 (some 31) L46_27 HT_ ?_
          refine pu_ 1 (some 32) L46_28 HT_ ?_
          refine pu_ 5 (some 36) L46_29 HT_ ?_
          refine pu_ 6 (some 37) L46_30 HT_ ?_
          refine ta_ 2 (some 33) L46_31 HT_ HW_ hHeld ?_ (hy := by rintro w' ⟨s0, s1, s2, s3⟩; go_simp; with_reducible rfl)
          refine pu_ 3 (some 34) L46_32 HT_ ?_
          refine ta_ 4 (some 35) L46_33 HT_ HW_ hHeld ?_ (hy := by rintro w' ⟨s0, s1, s2, s3⟩; go_simp; with_reducible rfl)
          refine ta_ 7 (some 38) L46_34 HT_ HW_ hHeld ?_ (hy := by rintro w' ⟨s0, s1, s2, s3⟩; go_simp; with_reducible rfl)
          refine pu_ 8 (some 39) L46_35 HT_ ?_
          refine ta_ 9 (some 40) L46_36 HT_ HW_ hHeld ?_ (hy := by rintro w' ⟨s0, s1, s2, s3⟩; go_simp; with_reducible rfl)
          refine one_ (i := 10) (N := some 41) L46_37 rfl rfl (one_of HT_.out (by kernel_rfl)) (by decide) (fun K hK => ?_)
          refine Kd.R_lit_step (Kd.int .i64) _ 3 ?hg (N := 41) ?hd (xs := ([rd (rd_L1 l0 0) 0, rd (rd_L1 l0 1) 1] : List Int)) (inner := [.int .i64 (rd (rd_L1 l0 0) 0), .int .i64 (rd (rd_L1 l0 1) 1)]) (ok := fun _ => True) (okp := fun _ => True) ?hr ?hp (fun _ hk => hk) trivial (Below.refl _ _) (Nat.le_refl _) (by simp) ?_; (case hd => rfl); (case hg => rfl); (case hr => first | (go_simp; done) | (go_simp; rfl)); (case hp => exact (Reps.one (show Kd.M (Kd.int .i64) _ _ _ (rd (rd_L1 l0 0) 0) [.int .i64 (rd (rd_L1 l0 0) 0)] from rfl) (Reps.one (show Kd.M (Kd.int .i64) _ _ _ (rd (rd_L1 l0 1) 1) [.int .i64 (rd (rd_L1 l0 1) 1)] from rfl) (Reps.none _ _))))
          intro v152 w15 ho16 hb hg_ hnew_
          clear hg_ hnew_
          (first | rw [← Ny151.out] at ho16 | (simp only [Int.reduceToNat] at ho16; rw [← Ny151.out] at ho16))
          have n0_ := Aside0.mk (Kd.R_lower ho16 (below_size (bq0_ HB.out)))
          have n1_ := Aside0.mk (below_step (bq0_ HB.out) hb)
          clear HB
          have HO153 := n0_
          have HB := n1_
          clear n0_ n1_ hb ho16
          refine hK.out _ _ ⟨((HB.out.cell (World.block_lt_of_cell? w _ hw147_0)).trans hw147_0), ((HB.out.cell (World.block_lt_of_cell? w _ hw148_0)).trans hw148_0), ((HB.out.cell (World.block_lt_of_cell? w _ hw149_0)).trans hw149_0), ((HB.out.cell (World.block_lt_of_cell? w _ hw150_0)).trans hw150_0)⟩ (fun hHeld => ?_)
          clear hK K
          refine norm_ (a' := ?_) ?_ ?_
          rotate_left
          ·show Act.put _ (some 41) _ = _
           simp only [Act.put, sA_, sB_, sC_, i64_w, i32_w]
           rfl
          refine pu_ 11 (some 4) L46_38 HT_ ?_
          refine done_ (done_of HT_.out (by kernel_rfl)) ?_
          obtain ⟨Ao17, co17, eo17⟩ := Kd.R_slice HO153.out
          subst eo17
          try go_wp2_with (first | ((with_reducible refine gate_callee (f := 18) rfl ?_); refine gL_ (some 44) Try.func18 #[.slice Ao17 y151.length co17] ?_; (with_reducible refine (shape_Check.calls k _ _ y151 t154 _ ?side1 ?side2 A12.out).mono ?_); (case side1 => exact mvC_ ((Kd.R_reads' HO153.out).2.2)); (case side2 => exact (Kd.R_reads' HO153.out).2.1); rintro e w' ⟨rfl, ⟨nd, rfl⟩⟩; refine ⟨_, rfl, ?_⟩))
          go_ret2
          exact ⟨_, by first | rfl | (simp <;> rfl) | (simp [*] <;> rfl), mvR_ HO153.out, bq0_ HB.out⟩
         ·rw [if_neg c11] at H
          exact absurd H (by simp)
        ·rw [if_neg c10] at H
         exact absurd H (by simp)
       ·rw [if_neg c9] at H
        have c9b0 : ((rd (rd_L1 l0 0) 1) == (rd (rd_L1 l0 1) 0)) = false := beq_eq_false_iff_ne.mpr c9
        have c9b1 : ((rd (rd_L1 l0 0) 1) != (rd (rd_L1 l0 1) 0)) = true := bne_iff_ne.mpr c9
        simp only [Option.some.injEq, Prod.mk.injEq] at H
        obtain ⟨rfl, rfl⟩ := H
        go_enter Try.func46, Try.ntmps46
        try go_wp2
        replace HB := Aside0.mk (below_drew1 HB.out)
        have p141 : 0 ≤ (0 : Int) := (by omega)
        have q141 : 0 < (l0.length : Int) := od_
        obtain ⟨ad141, A141_0, c141_0, e141, hx141_0, hl141_0, hi141_0⟩ := at_L1 HR0.out 0 p141 q141
        have hw141_0 := hx141_0
        (try rw [show ((0 : Int)).toNat = 0 from rfl] at hw141_0)
        (try rw [show 0 * 1 = 0 from rfl] at hw141_0)
        (try rw [Addr.add_zero'] at hw141_0)
        cases e141
        have qi141 : (0 < l0.length) = True := eq_true (by omega)
        (try rw [show ((0 : Int)).toNat = 0 from rfl] at hx141_0)
        (try rw [Addr.add_zero'] at hx141_0)
        replace hx141_0 := (HB.out.cell (World.block_lt_of_cell? w _ hx141_0)).trans hx141_0
        have HR141_0 := Aside0.mk hi141_0
        have HC141_0 := Aside0.mk hl141_0
        clear hi141_0 hl141_0
        replace p141 := eq_true p141
        replace q141 := eq_true q141
        have p142 : 0 ≤ (1 : Int) := (by omega)
        have q142 : 1 < (l0.length : Int) := od_
        obtain ⟨ad142, A142_0, c142_0, e142, hx142_0, hl142_0, hi142_0⟩ := at_L1 HR0.out 1 p142 q142
        have hw142_0 := hx142_0
        (try rw [show ((1 : Int)).toNat = 1 from rfl] at hw142_0)
        (try rw [show 1 * 1 = 1 from rfl] at hw142_0)
        (try simp only [Nat.reduceMul, Nat.reduceEqDiff, Go.Addr.add, ↓reduceIte] at hw142_0)
        obtain rfl : ad141 = ad142 := (by injection e142)
        (try simp only [show (1 : Int).toNat = 1 from rfl, Nat.reduceMul, Nat.reduceEqDiff, Go.Addr.add, ↓reduceIte] at hx142_0)
        have qi142 : (1 < l0.length) = True := eq_true (by omega)
        (try rw [show ((1 : Int)).toNat = 1 from rfl] at hx142_0)
        replace hx142_0 := (HB.out.cell (World.block_lt_of_cell? w _ hx142_0)).trans hx142_0
        have HR142_0 := Aside0.mk hi142_0
        have HC142_0 := Aside0.mk hl142_0
        clear hi142_0 hl142_0
        replace p142 := eq_true p142
        replace q142 := eq_true q142
        have p143 : 0 ≤ (0 : Int) := (by omega)
        have q143 : 0 < (l0.length : Int) := od_
        obtain ⟨ad143, A143_0, c143_0, e143, hx143_0, hl143_0, hi143_0⟩ := at_L1 HR0.out 0 p143 q143
        have hw143_0 := hx143_0
        (try rw [show ((0 : Int)).toNat = 0 from rfl] at hw143_0)
        (try rw [show 0 * 1 = 0 from rfl] at hw143_0)
        (try rw [Addr.add_zero'] at hw143_0)
        obtain rfl : ad141 = ad143 := (by injection e143)
        have qi143 : (0 < l0.length) = True := eq_true (by omega)
        (try rw [show ((0 : Int)).toNat = 0 from rfl] at hx143_0)
        (try rw [Addr.add_zero'] at hx143_0)
        replace hx143_0 := (HB.out.cell (World.block_lt_of_cell? w _ hx143_0)).trans hx143_0
        have HR143_0 := Aside0.mk hi143_0
        have HC143_0 := Aside0.mk hl143_0
        clear hi143_0 hl143_0
        replace p143 := eq_true p143
        replace q143 := eq_true q143
        have ea_ := Option.some.inj (hx141_0.symm.trans hx143_0)
        injection ea_ with ea_ en_ ec_
        subst ea_
        subst ec_
        clear en_
        have p144 : 0 ≤ (1 : Int) := (by omega)
        have q144 : 1 < ((rd_L1 l0 0).length : Int) := od_
        obtain ⟨ad144, e144, hx144_0⟩ := Kd.at_int HR143_0.out 1 p144 q144
        have hw144_0 := hx144_0
        (try rw [show ((1 : Int)).toNat = 1 from rfl] at hw144_0)
        (try rw [show 1 * 1 = 1 from rfl] at hw144_0)
        (try simp only [Nat.reduceMul, Nat.reduceEqDiff, Go.Addr.add, ↓reduceIte] at hw144_0)
        cases e144
        (try simp only [show (1 : Int).toNat = 1 from rfl, Nat.reduceMul, Nat.reduceEqDiff, Go.Addr.add, ↓reduceIte] at hx144_0)
        have qi144 : (1 < (rd_L1 l0 0).length) = True := eq_true (by omega)
        (try rw [show ((1 : Int)).toNat = 1 from rfl] at hx144_0)
        replace hx144_0 := (HB.out.cell (World.block_lt_of_cell? w _ hx144_0)).trans hx144_0
        replace p144 := eq_true p144
        replace q144 := eq_true q144
        have p145 : 0 ≤ (1 : Int) := (by omega)
        have q145 : 1 < (l0.length : Int) := od_
        obtain ⟨ad145, A145_0, c145_0, e145, hx145_0, hl145_0, hi145_0⟩ := at_L1 HR0.out 1 p145 q145
        have hw145_0 := hx145_0
        (try rw [show ((1 : Int)).toNat = 1 from rfl] at hw145_0)
        (try rw [show 1 * 1 = 1 from rfl] at hw145_0)
        (try simp only [Nat.reduceMul, Nat.reduceEqDiff, Go.Addr.add, ↓reduceIte] at hw145_0)
        obtain rfl : ad141 = ad145 := (by injection e145)
        (try simp only [show (1 : Int).toNat = 1 from rfl, Nat.reduceMul, Nat.reduceEqDiff, Go.Addr.add, ↓reduceIte] at hx145_0)
        have qi145 : (1 < l0.length) = True := eq_true (by omega)
        (try rw [show ((1 : Int)).toNat = 1 from rfl] at hx145_0)
        replace hx145_0 := (HB.out.cell (World.block_lt_of_cell? w _ hx145_0)).trans hx145_0
        have HR145_0 := Aside0.mk hi145_0
        have HC145_0 := Aside0.mk hl145_0
        clear hi145_0 hl145_0
        replace p145 := eq_true p145
        replace q145 := eq_true q145
        have ea_ := Option.some.inj (hx142_0.symm.trans hx145_0)
        injection ea_ with ea_ en_ ec_
        subst ea_
        subst ec_
        clear en_
        have p146 : 0 ≤ (0 : Int) := (by omega)
        have q146 : 0 < ((rd_L1 l0 1).length : Int) := od_
        obtain ⟨ad146, e146, hx146_0⟩ := Kd.at_int HR145_0.out 0 p146 q146
        have hw146_0 := hx146_0
        (try rw [show ((0 : Int)).toNat = 0 from rfl] at hw146_0)
        (try rw [show 0 * 1 = 0 from rfl] at hw146_0)
        (try rw [Addr.add_zero'] at hw146_0)
        cases e146
        have qi146 : (0 < (rd_L1 l0 1).length) = True := eq_true (by omega)
        (try rw [show ((0 : Int)).toNat = 0 from rfl] at hx146_0)
        (try rw [Addr.add_zero'] at hx146_0)
        replace hx146_0 := (HB.out.cell (World.block_lt_of_cell? w _ hx146_0)).trans hx146_0
        replace p146 := eq_true p146
        replace q146 := eq_true q146
        refine start_ (n := 25) (S := fun w' => w'.cell? ad141 = some (.slice (some ad144) (rd_L1 l0 0).length c141_0) ∧ w'.cell? ⟨ad141.block, ad141.off + 1, none⟩ = some (.slice (some ad146) (rd_L1 l0 1).length c142_0) ∧ w'.cell? ad141 = some (.slice (some ad144) (rd_L1 l0 0).length c141_0) ∧ w'.cell? ⟨ad144.block, ad144.off + 1, none⟩ = some (.int .i64 (rd (rd_L1 l0 0) 1)) ∧ w'.cell? ⟨ad141.block, ad141.off + 1, none⟩ = some (.slice (some ad146) (rd_L1 l0 1).length c142_0) ∧ w'.cell? ad146 = some (.int .i64 (rd (rd_L1 l0 1) 0))) (ds := []) L46_0 (by kernel_rfl) rfl rfl ⟨((HB.out.cell (World.block_lt_of_cell? w _ hw141_0)).trans hw141_0), ((HB.out.cell (World.block_lt_of_cell? w _ hw142_0)).trans hw142_0), ((HB.out.cell (World.block_lt_of_cell? w _ hw143_0)).trans hw143_0), ((HB.out.cell (World.block_lt_of_cell? w _ hw144_0)).trans hw144_0), ((HB.out.cell (World.block_lt_of_cell? w _ hw145_0)).trans hw145_0), ((HB.out.cell (World.block_lt_of_cell? w _ hw146_0)).trans hw146_0)⟩ (fun hHeld => ?_); refine with_tabW infer_rules_6.tab1 infer_rules_6.bits1 (fun HT_ HW_ => ?_)
        generalize w.drew = w18 at HB HR141_0 HR142_0 HR143_0 HR145_0 hx141_0 hx142_0 hx143_0 hx144_0 hx145_0 hx146_0 hHeld ⊢
        refine pu_ 0 (some 6) L46_1 HT_ ?_
        refine pu_ 1 (some 7) L46_2 HT_ ?_
        refine ta_ 2 (some 8) L46_3 HT_ HW_ hHeld ?_ (hy := by rintro w' ⟨s0, s1, s2, s3, s4, s5⟩; go_simp; with_reducible rfl)
        refine pu_ 3 (some 9) L46_4 HT_ ?_
        refine pu_ 4 (some 10) L46_5 HT_ ?_
        refine pu_ 5 (some 11) L46_6 HT_ ?_
        refine pu_ 6 (some 12) L46_7 HT_ ?_
        refine pu_ 7 (some 13) L46_8 HT_ ?_
        refine ta_ 8 (some 14) L46_9 HT_ HW_ hHeld ?_ (hy := by rintro w' ⟨s0, s1, s2, s3, s4, s5⟩; go_simp; with_reducible rfl)
        refine pu_ 9 (some 15) L46_10 HT_ ?_
        refine pu_ 10 (some 16) L46_11 HT_ ?_
        refine pu_ 11 (some 17) L46_12 HT_ ?_
        refine pu_ 12 (some 18) L46_13 HT_ ?_
        refine pu_ 13 (some 19) L46_14 HT_ ?_
        refine pu_ 14 (some 20) L46_15 HT_ ?_
        refine pu_ 18 (some 24) L46_16 HT_ ?_
        refine pu_ 19 (some 25) L46_17 HT_ ?_
        refine ta_ 15 (some 21) L46_18 HT_ HW_ hHeld ?_ (hy := by rintro w' ⟨s0, s1, s2, s3, s4, s5⟩; go_simp; with_reducible rfl)
        refine pu_ 16 (some 22) L46_19 HT_ ?_
        refine ta_ 17 (some 23) L46_20 HT_ HW_ hHeld ?_ (hy := by rintro w' ⟨s0, s1, s2, s3, s4, s5⟩; go_simp; with_reducible rfl)
        refine ta_ 20 (some 26) L46_21 HT_ HW_ hHeld ?_ (hy := by rintro w' ⟨s0, s1, s2, s3, s4, s5⟩; go_simp; with_reducible rfl)
        refine pu_ 21 (some 27) L46_22 HT_ ?_
        refine ta_ 22 (some 28) L46_23 HT_ HW_ hHeld ?_ (hy := by rintro w' ⟨s0, s1, s2, s3, s4, s5⟩; go_simp; with_reducible rfl)
        refine pu_ 23 (some 29) L46_24 HT_ ?_
        refine pu_ 24 (some 30) L46_25 HT_ ?_
        refine done_ (done_of HT_.out (by kernel_rfl)) ?_
        try go_wp2
        go_ret2
        exact ⟨_, by first | rfl | (simp <;> rfl) | (simp [*] <;> rfl), by first | exact Kd.R_nil _ _ _ _ _ | exact Kd.N_nil _ _ _ _ _ | exact Kd.V_nil _ _ _ _ _ | exact Kd.Q_nil _ _ _ _ _ | exact Kd.S_nil _ _ _ _ _, bq0_ HB.out⟩
      ·rw [if_neg c8] at H
       exact absurd H (by simp)
     ·rw [if_neg c7] at H
      exact absurd H (by simp)
    ·rw [if_neg c6] at H
     have c6b0 : (((rd_L1 l0 1).length : Int) == 2) = false := beq_eq_false_iff_ne.mpr c6
     have c6b1 : (((rd_L1 l0 1).length : Int) != 2) = true := bne_iff_ne.mpr c6
     simp only [Option.some.injEq, Prod.mk.injEq] at H
     obtain ⟨rfl, rfl⟩ := H
     go_enter Try.func46, Try.ntmps46
     try go_wp2
     replace HB := Aside0.mk (below_drew1 HB.out)
     have p141 : 0 ≤ (0 : Int) := (by omega)
     have q141 : 0 < (l0.length : Int) := od_
     obtain ⟨ad141, A141_0, c141_0, e141, hx141_0, hl141_0, hi141_0⟩ := at_L1 HR0.out 0 p141 q141
     have hw141_0 := hx141_0
     (try rw [show ((0 : Int)).toNat = 0 from rfl] at hw141_0)
     (try rw [show 0 * 1 = 0 from rfl] at hw141_0)
     (try rw [Addr.add_zero'] at hw141_0)
     cases e141
     have qi141 : (0 < l0.length) = True := eq_true (by omega)
     (try rw [show ((0 : Int)).toNat = 0 from rfl] at hx141_0)
     (try rw [Addr.add_zero'] at hx141_0)
     replace hx141_0 := (HB.out.cell (World.block_lt_of_cell? w _ hx141_0)).trans hx141_0
     have HR141_0 := Aside0.mk hi141_0
     have HC141_0 := Aside0.mk hl141_0
     clear hi141_0 hl141_0
     replace p141 := eq_true p141
     replace q141 := eq_true q141
     have p142 : 0 ≤ (1 : Int) := (by omega)
     have q142 : 1 < (l0.length : Int) := od_
     obtain ⟨ad142, A142_0, c142_0, e142, hx142_0, hl142_0, hi142_0⟩ := at_L1 HR0.out 1 p142 q142
     have hw142_0 := hx142_0
     (try rw [show ((1 : Int)).toNat = 1 from rfl] at hw142_0)
     (try rw [show 1 * 1 = 1 from rfl] at hw142_0)
     (try simp only [Nat.reduceMul, Nat.reduceEqDiff, Go.Addr.add, ↓reduceIte] at hw142_0)
     obtain rfl : ad141 = ad142 := (by injection e142)
     (try simp only [show (1 : Int).toNat = 1 from rfl, Nat.reduceMul, Nat.reduceEqDiff, Go.Addr.add, ↓reduceIte] at hx142_0)
     have qi142 : (1 < l0.length) = True := eq_true (by omega)
     (try rw [show ((1 : Int)).toNat = 1 from rfl] at hx142_0)
     replace hx142_0 := (HB.out.cell (World.block_lt_of_cell? w _ hx142_0)).trans hx142_0
     have HR142_0 := Aside0.mk hi142_0
     have HC142_0 := Aside0.mk hl142_0
     clear hi142_0 hl142_0
     replace p142 := eq_true p142
     replace q142 := eq_true q142
     refine start_ (n := 25) (S := fun w' => w'.cell? ad141 = some (.slice A141_0 (rd_L1 l0 0).length c141_0) ∧ w'.cell? ⟨ad141.block, ad141.off + 1, none⟩ = some (.slice A142_0 (rd_L1 l0 1).length c142_0)) (ds := []) L46_0 (by kernel_rfl) rfl rfl ⟨((HB.out.cell (World.block_lt_of_cell? w _ hw141_0)).trans hw141_0), ((HB.out.cell (World.block_lt_of_cell? w _ hw142_0)).trans hw142_0)⟩ (fun hHeld => ?_); refine with_tabW infer_rules_6.tab1 infer_rules_6.bits1 (fun HT_ HW_ => ?_)
     generalize w.drew = w19 at HB HR141_0 HR142_0 hx141_0 hx142_0 hHeld ⊢
     refine pu_ 0 (some 6) L46_1 HT_ ?_
     refine pu_ 1 (some 7) L46_2 HT_ ?_
     refine ta_ 2 (some 8) L46_3 HT_ HW_ hHeld ?_ (hy := by rintro w' ⟨s0, s1⟩; go_simp; with_reducible rfl)
     refine pu_ 3 (some 9) L46_4 HT_ ?_
     refine pu_ 4 (some 10) L46_5 HT_ ?_
     refine pu_ 5 (some 11) L46_6 HT_ ?_
     refine pu_ 6 (some 12) L46_7 HT_ ?_
     refine pu_ 7 (some 13) L46_8 HT_ ?_
     refine ta_ 8 (some 14) L46_9 HT_ HW_ hHeld ?_ (hy := by rintro w' ⟨s0, s1⟩; go_simp; with_reducible rfl)
     refine pu_ 9 (some 15) L46_10 HT_ ?_
     refine pu_ 10 (some 16) L46_11 HT_ ?_
     refine pu_ 11 (some 17) L46_12 HT_ ?_
     refine pu_ 12 (some 18) L46_13 HT_ ?_
     refine skips_ (fuel := 1) (m := 12) HT_.out (fun _ _ _ _ _ h => h) [(13, 19), (14, 20), (15, 21), (16, 22), (17, 23), (18, 24), (19, 25), (20, 26), (21, 27), (22, 28), (23, 29)] L46_24 rfl (by kernel_rfl) (by kernel_rfl) (a' := ?_) ?_ ?_
     rotate_left
     ·simp only [putU, Act.put, sA_, sB_, sC_]
      rfl
     refine pu_ 24 (some 30) L46_25 HT_ ?_
     refine done_ (done_of HT_.out (by kernel_rfl)) ?_
     try go_wp2
     go_ret2
     exact ⟨_, by first | rfl | (simp <;> rfl) | (simp [*] <;> rfl), by first | exact Kd.R_nil _ _ _ _ _ | exact Kd.N_nil _ _ _ _ _ | exact Kd.V_nil _ _ _ _ _ | exact Kd.Q_nil _ _ _ _ _ | exact Kd.S_nil _ _ _ _ _, bq0_ HB.out⟩
   ·rw [if_neg c5] at H
    exact absurd H (by simp)
  ·rw [if_neg c4] at H
   have c4b0 : (((rd_L1 l0 0).length : Int) == 2) = false := beq_eq_false_iff_ne.mpr c4
   have c4b1 : (((rd_L1 l0 0).length : Int) != 2) = true := bne_iff_ne.mpr c4
   simp only [Option.some.injEq, Prod.mk.injEq] at H
   obtain ⟨rfl, rfl⟩ := H
   go_enter Try.func46, Try.ntmps46
   try go_wp2
   replace HB := Aside0.mk (below_drew1 HB.out)
   have p141 : 0 ≤ (0 : Int) := (by omega)
   have q141 : 0 < (l0.length : Int) := od_
   obtain ⟨ad141, A141_0, c141_0, e141, hx141_0, hl141_0, hi141_0⟩ := at_L1 HR0.out 0 p141 q141
   have hw141_0 := hx141_0
   (try rw [show ((0 : Int)).toNat = 0 from rfl] at hw141_0)
   (try rw [show 0 * 1 = 0 from rfl] at hw141_0)
   (try rw [Addr.add_zero'] at hw141_0)
   cases e141
   have qi141 : (0 < l0.length) = True := eq_true (by omega)
   (try rw [show ((0 : Int)).toNat = 0 from rfl] at hx141_0)
   (try rw [Addr.add_zero'] at hx141_0)
   replace hx141_0 := (HB.out.cell (World.block_lt_of_cell? w _ hx141_0)).trans hx141_0
   have HR141_0 := Aside0.mk hi141_0
   have HC141_0 := Aside0.mk hl141_0
   clear hi141_0 hl141_0
   replace p141 := eq_true p141
   replace q141 := eq_true q141
   refine start_ (n := 25) (S := fun w' => w'.cell? ad141 = some (.slice A141_0 (rd_L1 l0 0).length c141_0)) (ds := []) L46_0 (by kernel_rfl) rfl rfl (((HB.out.cell (World.block_lt_of_cell? w _ hw141_0)).trans hw141_0)) (fun hHeld => ?_); refine with_tabW infer_rules_6.tab1 infer_rules_6.bits1 (fun HT_ HW_ => ?_)
   generalize w.drew = w20 at HB HR141_0 hx141_0 hHeld ⊢
   refine pu_ 0 (some 6) L46_1 HT_ ?_
   refine pu_ 1 (some 7) L46_2 HT_ ?_
   refine ta_ 2 (some 8) L46_3 HT_ HW_ hHeld ?_ (hy := by intro w' s0; go_simp; with_reducible rfl)
   refine pu_ 3 (some 9) L46_4 HT_ ?_
   refine pu_ 4 (some 10) L46_5 HT_ ?_
   refine pu_ 5 (some 11) L46_6 HT_ ?_
   refine skips_ (fuel := 14) (m := 19) HT_.out (fun _ _ _ _ _ h => h) [(6, 12), (7, 13), (8, 14), (9, 15), (10, 16)] L46_11 rfl (by kernel_rfl) (by kernel_rfl) (a' := ?_) ?_ ?_
   rotate_left
   ·simp only [putU, Act.put, sA_, sB_, sC_]
    rfl
   refine pu_ 11 (some 17) L46_12 HT_ ?_
   refine pu_ 12 (some 18) L46_13 HT_ ?_
   refine skips_ (fuel := 1) (m := 12) HT_.out (fun _ _ _ _ _ h => h) [(13, 19), (14, 20), (15, 21), (16, 22), (17, 23), (18, 24), (19, 25), (20, 26), (21, 27), (22, 28), (23, 29)] L46_24 rfl (by kernel_rfl) (by kernel_rfl) (a' := ?_) ?_ ?_
   rotate_left
   ·simp only [putU, Act.put, sA_, sB_, sC_]
    rfl
   refine pu_ 24 (some 30) L46_25 HT_ ?_
   refine done_ (done_of HT_.out (by kernel_rfl)) ?_
   try go_wp2
   go_ret2
   exact ⟨_, by first | rfl | (simp <;> rfl) | (simp [*] <;> rfl), by first | exact Kd.R_nil _ _ _ _ _ | exact Kd.N_nil _ _ _ _ _ | exact Kd.V_nil _ _ _ _ _ | exact Kd.Q_nil _ _ _ _ _ | exact Kd.S_nil _ _ _ _ _, bq0_ HB.out⟩
 ·rw [if_neg c3] at H
  exact absurd H (by simp)

/-! ### shape_side: function 64 -/
def shape_side.f (l0 : List Int) (a1 : Int) : Option (Int) := if a1 ≥ (l0.length : Int) then (some 1) else (if 0 ≤ (wrap64 ((wrap64 ((l0.length : Int) - 1)) - a1)) then (if (wrap64 ((wrap64 ((l0.length : Int) - 1)) - a1)) < (l0.length : Int) then (some (rd l0 (wrap64 ((wrap64 ((l0.length : Int) - 1)) - a1)))) else (none)) else (none))
set_option maxHeartbeats 8000000 in
set_option maxRecDepth 100000 in
theorem shape_side.calls (A0 : Option Addr) (c0 : Nat) (l0 : List Int) (a1 : Int) (r : Int) (w : World) (hr0 : Kd.C (Kd.int .i64) w A0 l0.length l0) (hc0 : l0.length ≤ c0) (h : shape_side.f l0 a1 = some r) :
    Calls Try.prog 64 #[.slice A0 l0.length c0, .int .i64 a1] w fun e w' => e = .returned (.int .i64 r) ∧ Drawn0 w w' := by
  have HR0 := Aside0.mk hr0
  have HC0 := Aside0.mk hc0
  clear hr0 hc0
  have H : (if a1 ≥ (l0.length : Int) then (some 1) else (if 0 ≤ (wrap64 ((wrap64 ((l0.length : Int) - 1)) - a1)) then (if (wrap64 ((wrap64 ((l0.length : Int) - 1)) - a1)) < (l0.length : Int) then (some (rd l0 (wrap64 ((wrap64 ((l0.length : Int) - 1)) - a1)))) else (none)) else (none))) = some r := h
  clear h
  by_cases c3 : a1 ≥ (l0.length : Int)
  · rw [if_pos c3] at H
    have c3b0 : decide ((l0.length : Int) ≤ a1) = true := decide_eq_true c3
    clear c3
    obtain rfl := Option.some.inj H
    go_enter Try.func64, Try.ntmps64
    go_wp2
    go_ret
    exact ⟨by first | rfl | (simp; done) | (simp [*]; done), by repeat (first | exact Drawn0.refl _ | apply Drawn0.step)⟩
  · rw [if_neg c3] at H
    have c3b0 : decide ((l0.length : Int) ≤ a1) = false := decide_eq_false c3
    clear c3
    obtain ⟨ji4, hji4⟩ : ∃ j_ : Int, (wrap64 ((wrap64 ((l0.length : Int) - 1)) - a1)) = j_ := ⟨_, rfl⟩
    replace H : (if 0 ≤ (ji4) then (if (ji4) < (l0.length : Int) then (some (rd l0 (ji4))) else (none)) else (none)) = some r := by first | (rw [hji4] at H; exact H) | (simp only [hji4] at H ⊢; exact H)
    have hji4w : (IntKind.i64.wrap ((wrap64 ((l0.length : Int) - 1)) - a1)) = ji4 := (i64_w _).trans hji4
    by_cases c5 : 0 ≤ (ji4)
    · rw [if_pos c5] at H
      have c5b0 : decide (0 ≤ (ji4)) = true := decide_eq_true c5
      clear c5
      by_cases c6 : (ji4) < (l0.length : Int)
      · rw [if_pos c6] at H
        have c6b0 : decide ((ji4) < (l0.length : Int)) = true := decide_eq_true c6
        clear c6
        obtain rfl := Option.some.inj H
        have p155 : 0 ≤ ((ji4) : Int) := of_decide_eq_true (by first | (with_reducible assumption) | assumption)
        have q155 : (ji4) < (l0.length : Int) := of_decide_eq_true (by first | (with_reducible assumption) | assumption)
        obtain ⟨ad155, e155, hx155_0⟩ := Kd.at_int HR0.out (ji4) p155 q155
        cases e155
        replace p155 := eq_true p155
        replace q155 := eq_true q155
        go_enter Try.func64, Try.ntmps64
        go_wp2
        go_ret
        exact ⟨by first | rfl | (simp; done) | (simp only [← hji4] <;> (first | rfl | simp)) | (simp [*]; done), by repeat (first | exact Drawn0.refl _ | apply Drawn0.step)⟩
      · rw [if_neg c6] at H
        exact absurd H (by simp)
    · rw [if_neg c5] at H
      exact absurd H (by simp)

end Go.Proofs.Ytalmgghhpgfgoaa.A
