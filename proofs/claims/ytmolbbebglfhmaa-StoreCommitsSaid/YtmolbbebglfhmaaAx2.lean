/- Lean functions that answer as the Go functions do, and the proofs that they do; no conditions. Written by this session's own driver: a scratch copy of the kit's print with the session's additions (wip/xprint). -/
import Derived.Test.YtmolbbebglfhmaaAx0
import Derived.Test.YtmolbbebglfhmaaAx1
namespace Go.Proofs.Ytmolbbebglfhmaa.A
open Go.RowKit Go.Proofs.YtmolbbebglfhmaaW.PrintWords Go.Proofs.YtmolbbebglfhmaaW.PrintLast Go.Proofs.YtmolbbebglfhmaaW.PrintMore
attribute [local go_sem] max2_int min2_int max_two min_two max_three min_three max_four min_four
set_option linter.unusedVariables false
set_option linter.unusedSimpArgs false
def slices_Equal_int_int.l0 : Nat → List Int → List Int → Int → Int → Option (Bool)
  | 0, _, _, _, _ => none
  | k + 1, x0, x1, x12, x13 => if x13 < x12 then (if 0 ≤ x13 then (if x13 < (x0.length : Int) then (if x13 < (x1.length : Int) then (if (rd x0 x13) = (rd x1 x13) then (slices_Equal_int_int.l0 k x0 x1 x12 (wrap64 (x13 + 1))) else (some false)) else (none)) else (none)) else (none)) else (some true)
def slices_Equal_int_int.f (k : Nat) (l0 : List Int) (l1 : List Int) : Option (Bool) := if (l0.length : Int) = (l1.length : Int) then (slices_Equal_int_int.l0 k l0 l1 (l0.length : Int) 0) else (some false)
theorem slices_Equal_int_int.mono_l : ∀ k, (∀ y0 y1 y2 y3, LeO (slices_Equal_int_int.l0 k y0 y1 y2 y3) (slices_Equal_int_int.l0 (k + 1) y0 y1 y2 y3))
  | 0 => fun _ _ _ _ r h => by simp [slices_Equal_int_int.l0] at h
  | k + 1 => by
    have ih0 := slices_Equal_int_int.mono_l k
    · intro y0 y1 y2 y3
      unfold slices_Equal_int_int.l0
      repeat' first
       | (with_reducible first | exact ih0 _ _ _ _ | exact LeO.refl _ | exact LeO.none _ | refine LeO.ite ?_ ?_ | refine LeO.bind ?_ (fun _ => ?_))
       | first | exact ih0 _ _ _ _ | exact LeO.none _ | refine LeO.ite ?_ ?_ | refine LeO.bind ?_ (fun _ => ?_)
theorem slices_Equal_int_int.mono : ∀ a0 a1 k, LeO (slices_Equal_int_int.f k a0 a1) (slices_Equal_int_int.f (k + 1) a0 a1) := by
  intro a0 a1 k
  have ih0 := slices_Equal_int_int.mono_l k
  unfold slices_Equal_int_int.f
  repeat' first
   | (with_reducible first | exact ih0 _ _ _ _ | exact LeO.refl _ | exact LeO.none _ | refine LeO.ite ?_ ?_ | refine LeO.bind ?_ (fun _ => ?_))
   | first | exact ih0 _ _ _ _ | exact LeO.none _ | refine LeO.ite ?_ ?_ | refine LeO.bind ?_ (fun _ => ?_)
set_option maxHeartbeats 8000000 in
set_option maxRecDepth 100000 in
theorem slices_Equal_int_int.calls (k : Nat) (A0 : Option Addr) (c0 : Nat) (l0 : List Int) (A1 : Option Addr) (c1 : Nat) (l1 : List Int) (r : Bool) (w : World) (hr0 : Kd.C (Kd.int .i64) w A0 l0.length l0) (hc0 : l0.length ≤ c0) (hr1 : Kd.C (Kd.int .i64) w A1 l1.length l1) (hc1 : l1.length ≤ c1) (h : slices_Equal_int_int.f k l0 l1 = some r) :
    Calls Try.prog 43 #[.slice A0 l0.length c0, .slice A1 l1.length c1] w fun e w' => e = .returned (.bool r) ∧ Drawn0 w w' := by
  have HR0 := Aside0.mk hr0
  have HC0 := Aside0.mk hc0
  clear hr0 hc0
  have HR1 := Aside0.mk hr1
  have HC1 := Aside0.mk hc1
  clear hr1 hc1
  have H : (if (l0.length : Int) = (l1.length : Int) then (slices_Equal_int_int.l0 k l0 l1 (l0.length : Int) 0) else (some false)) = some r := h
  clear h
  by_cases c3 : (l0.length : Int) = (l1.length : Int)
  · rw [if_pos c3] at H
    have c3b0 : ((l0.length : Int) == (l1.length : Int)) = true := beq_iff_eq.mpr c3
    have c3b1 : ((l0.length : Int) != (l1.length : Int)) = false := bne_eq_false_iff_eq.mpr c3
    have c3b2 : (l0.length == l1.length) = true := by first | simpa using c3 | (simp at c3 ⊢; omega)
    clear c3
    have H' := Aside0.mk H
    clear H
    go_enter Try.func43, Try.ntmps43
    go_wp2
    repeat (go_quiet (fail); try go_wp2)
    go_loopg [13] k (fun kq v13 w' => ∃ (x13_1 : Int), v13 = .int .i64 x13_1 ∧ Aside0 (slices_Equal_int_int.l0 kq l0 l1 (l0.length : Int) x13_1 = some r) ∧ Aside0 (kq ≤ k) ∧ Drawn0 w w')
    case atStart => exact ⟨(0), (by first | rfl | (simp; done) | (simp [*]; done)), H', ⟨Nat.le_refl _⟩, by repeat (first | exact Drawn0.refl _ | apply Drawn0.step)⟩
    case round =>
      clear H'
      try clear c1
      try clear p2
      try clear c3
      try clear c3b0
      try clear c3b1
      try clear c3b2
      obtain ⟨x13_1, rfl, HA, HK1, ⟨m1, rfl⟩⟩ := hrel
      cases gk with
      | zero => exact absurd HA.out (by simp [slices_Equal_int_int.l0])
      | succ k1 =>
        have H := HA.out
        clear HA
        simp only [slices_Equal_int_int.l0] at H
        by_cases c4 : x13_1 < (l0.length : Int)
        · rw [if_pos c4] at H
          have c4b0 : decide (x13_1 < (l0.length : Int)) = true := decide_eq_true c4
          clear c4
          by_cases c5 : 0 ≤ x13_1
          · rw [if_pos c5] at H
            have c5b0 : decide (0 ≤ x13_1) = true := decide_eq_true c5
            clear c5
            by_cases c6 : x13_1 < (l0.length : Int)
            · rw [if_pos c6] at H
              have c6b0 : decide (x13_1 < (l0.length : Int)) = true := decide_eq_true c6
              clear c6
              by_cases c7 : x13_1 < (l1.length : Int)
              · rw [if_pos c7] at H
                have c7b0 : decide (x13_1 < (l1.length : Int)) = true := decide_eq_true c7
                clear c7
                by_cases c8 : (rd l0 x13_1) = (rd l1 x13_1)
                · rw [if_pos c8] at H
                  obtain ⟨c8b0, c8b1⟩ := eqT_ c8
                  clear c8
                  have H' := Aside0.mk H
                  clear H
                  have p112 : 0 ≤ (x13_1 : Int) := of_decide_eq_true (by first | (with_reducible assumption) | assumption)
                  have q112 : x13_1 < (l0.length : Int) := of_decide_eq_true (by first | (with_reducible assumption) | assumption)
                  obtain ⟨ad112, e112, hx112_0⟩ := Kd.at_int HR0.out x13_1 p112 q112
                  cases e112
                  replace p112 := eq_true p112
                  replace q112 := eq_true q112
                  have p113 : 0 ≤ (x13_1 : Int) := of_decide_eq_true (by first | (with_reducible assumption) | assumption)
                  have q113 : x13_1 < (l1.length : Int) := of_decide_eq_true (by first | (with_reducible assumption) | assumption)
                  obtain ⟨ad113, e113, hx113_0⟩ := Kd.at_int HR1.out x13_1 p113 q113
                  cases e113
                  replace p113 := eq_true p113
                  replace q113 := eq_true q113
                  go_wp2
                  repeat (go_quiet (fail); try go_wp2)
                  go_roundg k1
                  case measure => have := HK1.out; omega
                  case rel => exact ⟨(wrap64 (x13_1 + 1)), (by first | rfl | (simp; done) | (simp [*]; done)), H', ⟨by have := HK1.out; omega⟩, by repeat (first | exact Drawn0.refl _ | apply Drawn0.step)⟩
                · rw [if_neg c8] at H
                  have c8b0 : ((rd l0 x13_1) == (rd l1 x13_1)) = false := beq_eq_false_iff_ne.mpr c8
                  have c8b1 : ((rd l0 x13_1) != (rd l1 x13_1)) = true := bne_iff_ne.mpr c8
                  obtain rfl := Option.some.inj H
                  have p112 : 0 ≤ (x13_1 : Int) := of_decide_eq_true (by first | (with_reducible assumption) | assumption)
                  have q112 : x13_1 < (l0.length : Int) := of_decide_eq_true (by first | (with_reducible assumption) | assumption)
                  obtain ⟨ad112, e112, hx112_0⟩ := Kd.at_int HR0.out x13_1 p112 q112
                  cases e112
                  replace p112 := eq_true p112
                  replace q112 := eq_true q112
                  have p113 : 0 ≤ (x13_1 : Int) := of_decide_eq_true (by first | (with_reducible assumption) | assumption)
                  have q113 : x13_1 < (l1.length : Int) := of_decide_eq_true (by first | (with_reducible assumption) | assumption)
                  obtain ⟨ad113, e113, hx113_0⟩ := Kd.at_int HR1.out x13_1 p113 q113
                  cases e113
                  replace p113 := eq_true p113
                  replace q113 := eq_true q113
                  go_wp2
                  repeat (go_quiet (fail); try go_wp2)
                  go_ret
                  exact ⟨by first | rfl | (simp; done) | (simp [*]; done), by repeat (first | exact Drawn0.refl _ | apply Drawn0.step)⟩
              · rw [if_neg c7] at H
                exact absurd H (by simp)
            · rw [if_neg c6] at H
              exact absurd H (by simp)
          · rw [if_neg c5] at H
            exact absurd H (by simp)
        · rw [if_neg c4] at H
          have c4b0 : decide (x13_1 < (l0.length : Int)) = false := decide_eq_false c4
          clear c4
          obtain rfl := Option.some.inj H
          go_wp2
          repeat (go_quiet (fail); try go_wp2)
          go_ret
          exact ⟨by first | rfl | (simp; done) | (simp [*]; done), by repeat (first | exact Drawn0.refl _ | apply Drawn0.step)⟩
  · rw [if_neg c3] at H
    have c3b0 : ((l0.length : Int) == (l1.length : Int)) = false := beq_eq_false_iff_ne.mpr c3
    have c3b1 : ((l0.length : Int) != (l1.length : Int)) = true := bne_iff_ne.mpr c3
    have c3b2 : (l0.length == l1.length) = false := by first | simpa using c3 | (simp at c3 ⊢; omega)
    obtain rfl := Option.some.inj H
    go_enter Try.func43, Try.ntmps43
    go_wp2
    repeat (go_quiet (fail); try go_wp2)
    go_ret
    exact ⟨by first | rfl | (simp; done) | (simp [*]; done), by repeat (first | exact Drawn0.refl _ | apply Drawn0.step)⟩
def L26_0 : Array Bool := #[false, false, false, false, false, false, false, false, false, false, false, false, false, false, false, false, false, false, false, false, false, false, false, false]
def L26_1 : Array Bool := #[true, false, false, false, false, false, false, false, false, false, false, false, false, false, false, false, false, false, false, false, false, false, false, false]
def L26_2 : Array Bool := #[true, true, false, false, false, false, false, false, false, false, false, false, false, false, false, false, false, false, false, false, false, false, false, false]
def L26_3 : Array Bool := #[true, true, true, false, false, false, false, false, false, false, false, false, false, false, false, false, false, false, false, false, false, false, false, false]
def L26_4 : Array Bool := #[true, true, true, false, true, false, false, false, false, false, false, false, false, false, false, false, false, false, false, false, false, false, false, false]
def L26_5 : Array Bool := #[true, true, true, true, true, false, false, false, false, false, false, false, false, false, false, false, false, false, false, false, false, false, false, false]
def L26_6 : Array Bool := #[true, true, true, true, true, true, false, false, false, false, false, false, false, false, false, false, false, false, false, false, false, false, false, false]
def L26_7 : Array Bool := #[true, true, true, true, true, true, true, false, false, false, false, false, false, false, false, false, false, false, false, false, false, false, false, false]
def L26_8 : Array Bool := #[true, true, true, true, true, true, true, true, false, false, false, false, false, false, false, false, false, false, false, false, false, false, false, false]
def L26_9 : Array Bool := #[true, true, true, true, true, true, true, true, true, false, false, false, false, false, false, false, false, false, false, false, false, false, false, false]
def L26_10 : Array Bool := #[true, true, true, true, true, true, true, true, true, true, false, false, false, false, false, false, false, false, false, false, false, false, false, false]
def L26_11 : Array Bool := #[true, true, true, true, true, true, true, true, true, true, true, false, false, false, false, false, false, false, false, false, false, false, false, false]
def L26_12 : Array Bool := #[true, true, true, true, true, true, true, true, true, true, true, true, false, false, false, false, false, false, false, false, false, false, false, false]
def L26_13 : Array Bool := #[true, true, true, true, true, true, true, true, true, true, true, true, true, false, false, false, false, false, false, false, false, false, false, false]
def L26_14 : Array Bool := #[true, true, true, true, true, true, true, true, true, true, true, true, true, true, false, false, false, false, false, false, false, false, false, false]
def L26_15 : Array Bool := #[true, true, true, true, true, true, true, true, true, true, true, true, true, true, true, false, false, false, false, false, false, false, false, false]
def L26_16 : Array Bool := #[true, true, true, true, true, true, true, true, true, true, true, true, true, true, true, false, true, false, false, false, false, false, false, false]
def L26_17 : Array Bool := #[true, true, true, true, true, true, true, true, true, true, true, true, true, true, true, false, true, true, false, false, false, false, false, false]
def L26_18 : Array Bool := #[true, true, true, true, true, true, true, true, true, true, true, true, true, true, true, false, true, true, true, false, false, false, false, false]
def L26_19 : Array Bool := #[true, true, true, true, true, true, true, true, true, true, true, true, true, true, true, false, true, true, true, true, false, false, false, false]
def L26_20 : Array Bool := #[true, true, true, true, true, true, true, true, true, true, true, true, true, true, true, true, true, true, true, true, false, false, false, false]
def L26_21 : Array Bool := #[true, true, true, true, true, true, true, true, true, true, true, true, true, true, true, true, true, true, true, true, true, false, false, false]
def L26_22 : Array Bool := #[true, true, true, true, true, true, true, true, true, true, true, true, true, true, true, true, true, true, true, true, true, true, false, false]
def L26_23 : Array Bool := #[true, true, true, true, true, true, true, true, true, true, true, true, true, true, true, true, true, true, true, true, true, true, true, false]
def L26_24 : Array Bool := #[true, true, true, true, true, true, true, true, true, true, true, true, true, true, true, true, true, true, true, true, true, true, true, true]
def chain_Check.l0 : Nat → List (S74) → Bool → Int → List (S74) → Int → Int → Option (Bool)
 | 0, _, _, _, _, _, _ => none
 | k + 1, x0, x3, x4, x10, x11, x12 => if x12 < x11 then (if 0 ≤ x12 then (if x12 < (x10.length : Int) then (if x3 = true then (if ((rd_T74 x10 x12).f0) > x4 then ((tensor_Check.f k ((rd_T74 x10 x12).f1.f0) ((rd_T74 x10 x12).f1.f1)).bind fun t116 => (if t116 = true then (if 0 < (x0.length : Int) then ((slices_Equal_int_int.f k ((rd_T74 x10 x12).f1.f0) ((rd_T74 x0 0).f1.f0)).bind fun t118 => (if t118 = true then (chain_Check.l0 k x0 t118 ((rd_T74 x10 x12).f0) x10 x11 (wrap64 (x12 + 1))) else (some t118))) else (none)) else (some false))) else (some false)) else (some false)) else (none)) else (none)) else (some x3)
def chain_Check.f (k : Nat) (l0 : List (S74)) : Option (Bool) := chain_Check.l0 k l0 (decide ((l0.length : Int) ≤ 16)) (-1) l0 (l0.length : Int) 0
theorem chain_Check.mono_l : ∀ k, (∀ y0 y1 y2 y3 y4 y5, LeO (chain_Check.l0 k y0 y1 y2 y3 y4 y5) (chain_Check.l0 (k + 1) y0 y1 y2 y3 y4 y5))
 | 0 => fun _ _ _ _ _ _ r h => by simp [chain_Check.l0] at h
 | k + 1 => by
  have ih0 := chain_Check.mono_l k
  ·intro y0 y1 y2 y3 y4 y5
   unfold chain_Check.l0
   repeat' first
    | (with_reducible first | exact ih0 _ _ _ _ _ _ | exact slices_Equal_int_int.mono _ _ _ | exact tensor_Check.mono _ _ _ | exact LeO.refl _ | exact LeO.none _ | refine LeO.ite ?_ ?_ | refine LeO.bind ?_ (fun _ => ?_))
    | first | exact ih0 _ _ _ _ _ _ | exact slices_Equal_int_int.mono _ _ _ | exact tensor_Check.mono _ _ _ | exact LeO.none _ | refine LeO.ite ?_ ?_ | refine LeO.bind ?_ (fun _ => ?_)
theorem chain_Check.mono : ∀ a0 k, LeO (chain_Check.f k a0) (chain_Check.f (k + 1) a0) := by
 intro a0 k
 have ih0 := chain_Check.mono_l k
 unfold chain_Check.f
 repeat' first
  | (with_reducible first | exact ih0 _ _ _ _ _ _ | exact slices_Equal_int_int.mono _ _ _ | exact tensor_Check.mono _ _ _ | exact LeO.refl _ | exact LeO.none _ | refine LeO.ite ?_ ?_ | refine LeO.bind ?_ (fun _ => ?_))
  | first | exact ih0 _ _ _ _ _ _ | exact slices_Equal_int_int.mono _ _ _ | exact tensor_Check.mono _ _ _ | exact LeO.none _ | refine LeO.ite ?_ ?_ | refine LeO.bind ?_ (fun _ => ?_)
def chain_Check.T5 : Bool × List (List Nat × List Nat) := (true, [([], []), ([0], [0]), ([1], [1]), ([2, 1], [1, 2]), ([1], [1]), ([3, 4, 1], [1, 3, 4]), ([1, 5], [1, 5]), ([6, 1], [6]), ([7], [7]), ([8, 7], [7, 8]), ([9, 7, 7], [7, 9]), ([7, 10], [7, 10]), ([11, 10], [11]), ([12], [12]), ([13, 12], [12, 13]), ([14, 12], [12, 14]), ([12], [12]), ([16, 12], [12, 16]), ([17, 12], [12, 17]), ([18, 12], [12, 18]), ([19, 12], [12, 19]), ([15, 20, 12, 12], [12, 15, 20]), ([12, 21], [12, 21]), ([22, 21, 0, 1, 2, 3, 4, 5, 6, 7, 8, 9, 10, 11, 12, 13, 14, 15, 16, 17, 18, 19, 20, 21, 22], [0, 22])])
def chain_Check.B5 : List Nat := [0, 1, 3, 7, 3, 31, 63, 127, 255, 511, 1023, 2047, 4095, 8191, 16383, 32767, 8191, 73727, 204799, 466943, 991231, 2097151, 4194303, 8388607]
theorem chain_Check.tab5 : rtab .any (opsOf Try.f26 5) = chain_Check.T5 := by kernel_rfl
theorem chain_Check.bits5 : waitsOk chain_Check.T5.2 chain_Check.B5 = true := by kernel_rfl
set_option maxHeartbeats 8000000 in
set_option maxRecDepth 100000 in
theorem chain_Check.calls (k : Nat) (A0 : Option Addr) (c0 : Nat) (l0 : List (S74)) (r : Bool) (w : World) (hr0 : Kd.C k74 w A0 l0.length l0) (hc0 : l0.length ≤ c0) (h : chain_Check.f k l0 = some r) :
  Calls Try.prog 26 #[.slice A0 l0.length c0] w fun e w' => e = .returned (.bool r) ∧ Below w.heap.size w w' := by
 have hu74 := Try.underlying74
 have hu37 := Try.underlying37
 have HR0 := Aside0.mk hr0
 have HC0 := Aside0.mk hc0
 clear hr0 hc0
 have HB := Aside0.mk (Below.refl w.heap.size w)
 have H : (chain_Check.l0 k l0 (decide ((l0.length : Int) ≤ 16)) (-1) l0 (l0.length : Int) 0) = some r := h
 clear h
 have H' := Aside0.mk H
 clear H
 go_enter Try.func26, Try.ntmps26
 (go_wp2; repeat (go_step3; go_wp2))
 go_loopg [3, 4, 12] k (fun kq v3 v4 v12 w' => ∃ (x3_1 : Bool) (x4_1 : Int) (x12_1 : Int), v3 = .bool x3_1 ∧ v4 = .int .i64 x4_1 ∧ v12 = .int .i64 x12_1 ∧ Aside0 (chain_Check.l0 kq l0 x3_1 x4_1 l0 (l0.length : Int) x12_1 = some r) ∧ Aside0 (kq ≤ k) ∧ Aside0 (Below w.heap.size w w'))
 case atStart => exact ⟨(decide ((l0.length : Int) ≤ 16)), ((-1)), (0), (by first | rfl | (simp; done) | (simp [*]; done)), (by first | rfl | (simp; done) | (simp [*]; done)), (by first | rfl | (simp; done) | (simp [*]; done)), H', ⟨Nat.le_refl _⟩, ⟨bq0_ HB.out⟩⟩
 case round =>
  clear H'
  obtain ⟨x3_1, x4_1, x12_1, rfl, rfl, rfl, HA, HK1, HB⟩ := hrel
  cases gk with
  | zero => exact absurd HA.out (by simp [chain_Check.l0])
  | succ k1 =>
   have H := HA.out
   clear HA
   simp only [chain_Check.l0] at H
   by_cases c2 : x12_1 < (l0.length : Int)
   ·rw [if_pos c2] at H
    have c2b0 : decide (x12_1 < (l0.length : Int)) = true := decide_eq_true c2
    clear c2
    by_cases c3 : 0 ≤ x12_1
    ·rw [if_pos c3] at H
     have c3b0 : decide (0 ≤ x12_1) = true := decide_eq_true c3
     clear c3
     by_cases c4 : x12_1 < (l0.length : Int)
     ·rw [if_pos c4] at H
      have c4b0 : decide (x12_1 < (l0.length : Int)) = true := decide_eq_true c4
      clear c4
      by_cases c5 : x3_1 = true
      ·subst c5
       have H1 : (if ((rd_T74 l0 x12_1).f0) > x4_1 then ((tensor_Check.f k1 ((rd_T74 l0 x12_1).f1.f0) ((rd_T74 l0 x12_1).f1.f1)).bind fun t116 => (if t116 = true then (if 0 < (l0.length : Int) then ((slices_Equal_int_int.f k1 ((rd_T74 l0 x12_1).f1.f0) ((rd_T74 l0 0).f1.f0)).bind fun t118 => (if t118 = true then (chain_Check.l0 k1 l0 t118 ((rd_T74 l0 x12_1).f0) l0 (l0.length : Int) (wrap64 (x12_1 + 1))) else (some t118))) else (none)) else (some false))) else (some false)) = some r := by rw [if_pos rfl] at H; exact H
       clear H
       have H := H1
       clear H1
       by_cases c6 : ((rd_T74 l0 x12_1).f0) > x4_1
       ·rw [if_pos c6] at H
        have c6b0 : decide (x4_1 < ((rd_T74 l0 x12_1).f0)) = true := decide_eq_true c6
        clear c6
        replace H := Option.bind_eq_some_iff.mp H
        obtain ⟨t116, A70, H⟩ := H
        replace H : (if t116 = true then (if 0 < (l0.length : Int) then ((slices_Equal_int_int.f k1 ((rd_T74 l0 x12_1).f1.f0) ((rd_T74 l0 0).f1.f0)).bind fun t118 => (if t118 = true then (chain_Check.l0 k1 l0 t118 ((rd_T74 l0 x12_1).f0) l0 (l0.length : Int) (wrap64 (x12_1 + 1))) else (some t118))) else (none)) else (some false)) = some r := H
        have A7 := Aside0.mk A70
        clear A70
        by_cases c8 : t116 = true
        ·subst c8
         have H1 : (if 0 < (l0.length : Int) then ((slices_Equal_int_int.f k1 ((rd_T74 l0 x12_1).f1.f0) ((rd_T74 l0 0).f1.f0)).bind fun t118 => (if t118 = true then (chain_Check.l0 k1 l0 t118 ((rd_T74 l0 x12_1).f0) l0 (l0.length : Int) (wrap64 (x12_1 + 1))) else (some t118))) else (none)) = some r := by rw [if_pos rfl] at H; exact H
         clear H
         have H := H1
         clear H1
         by_cases c9 : 0 < (l0.length : Int)
         ·rw [if_pos c9] at H
          have c9b0 : decide (0 < (l0.length : Int)) = true := decide_eq_true c9
          have c9b1 : decide (0 < l0.length) = true := decide_eq_true (by omega)
          clear c9
          replace H := Option.bind_eq_some_iff.mp H
          obtain ⟨t118, A100, H⟩ := H
          replace H : (if t118 = true then (chain_Check.l0 k1 l0 t118 ((rd_T74 l0 x12_1).f0) l0 (l0.length : Int) (wrap64 (x12_1 + 1))) else (some t118)) = some r := H
          have A10 := Aside0.mk A100
          clear A100
          by_cases c11 : t118 = true
          ·subst c11
           have H1 : (chain_Check.l0 k1 l0 true ((rd_T74 l0 x12_1).f0) l0 (l0.length : Int) (wrap64 (x12_1 + 1))) = some r := by rw [if_pos rfl] at H; exact H
           clear H
           have H := H1
           clear H1
           have H' := Aside0.mk H
           clear H
           have p114 : 0 ≤ (x12_1 : Int) := od_
           have q114 : x12_1 < (l0.length : Int) := od_
           obtain ⟨ad114, A114_1, c114_1, A114_2, c114_2, e114, hx114_0, hx114_1, hx114_2, hl114_1, hi114_1, hl114_2, hi114_2⟩ := at_T74 HR0.out x12_1 p114 q114
           cases e114
           replace hx114_0 := hb_ HB hx114_0
           replace hx114_1 := hb_ HB hx114_1
           replace hx114_2 := hb_ HB hx114_2
           have HR114_1 := Aside0.mk hi114_1
           have HC114_1 := Aside0.mk hl114_1
           clear hi114_1 hl114_1
           have HR114_2 := Aside0.mk hi114_2
           have HC114_2 := Aside0.mk hl114_2
           clear hi114_2 hl114_2
           replace p114 := eq_true p114
           replace q114 := eq_true q114
           try go_wp2_with (first | ((with_reducible refine gate_dst (N := 6) rfl ?_); refine box_event ?hg (N := 6) ?hd (cs := #[.int .i64 0, .slice none 0 0, .slice none 0 0]) (t := 74) ?hr ?_; (case hd => rfl); (case hg => rfl); (case hr => first | (go_simp; done) | (go_simp; rfl)); intro gb115 hg w12 hbox hb; have BK115 := Aside0.mk (hbox); have GW115 := Aside0.mk ((by rw [hg]; exact (below_size (bq0_ HB.out)) : w.heap.size ≤ gb115)); have GE115 := Aside0.mk ((by rw [hg]; exact (below_size (bq0_ HB.out)) : w.heap.size ≤ gb115)); replace HB := Aside0.mk (below_step (bq0_ HB.out) hb); clear hb hbox hg; have hcz13_0 := cz0_ BK115.out; have hcz13_1 := cz1_ BK115.out; have hcz13_2 := cz2_ BK115.out; have hfz13_0 := blk_frozen BK115.out 0; have hfz13_1 := blk_frozen BK115.out 1; have hfz13_2 := blk_frozen BK115.out 2))
           have n0_ : Aside0 ((((w12.setCell ⟨gb115, 0, none⟩ (.int .i64 ((rd_T74 l0 x12_1).f0))).setCell ⟨gb115, 1, none⟩ (.slice A114_1 ((rd_T74 l0 x12_1).f1.f0).length c114_1)).setCell ⟨gb115, 2, none⟩ (.slice A114_2 ((rd_T74 l0 x12_1).f1.f1).length c114_2)).heap[gb115]? = some (.cells #[.int .i64 ((rd_T74 l0 x12_1).f0), .slice A114_1 ((rd_T74 l0 x12_1).f1.f0).length c114_1, .slice A114_2 ((rd_T74 l0 x12_1).f1.f1).length c114_2] 74 (0, 0))) := ⟨by (with_reducible repeat (first | refine blk_drewN ?_ _ | refine blk_drew ?_ | refine blk_alloc ?_ _)); refine blk_put (cs := #[.int .i64 ((rd_T74 l0 x12_1).f0), .slice A114_1 ((rd_T74 l0 x12_1).f1.f0).length c114_1, .slice none 0 0]) ?_ 2 _ rfl; (with_reducible repeat (first | refine blk_drewN ?_ _ | refine blk_drew ?_ | refine blk_alloc ?_ _)); refine blk_put (cs := #[.int .i64 ((rd_T74 l0 x12_1).f0), .slice none 0 0, .slice none 0 0]) ?_ 1 _ rfl; (with_reducible repeat (first | refine blk_drewN ?_ _ | refine blk_drew ?_ | refine blk_alloc ?_ _)); refine blk_put (cs := #[.int .i64 0, .slice none 0 0, .slice none 0 0]) ?_ 0 _ rfl; (with_reducible repeat (first | refine blk_drewN ?_ _ | refine blk_drew ?_ | refine blk_alloc ?_ _)); exact BK115.out⟩
           have n1_ : Aside0 (Below w.heap.size w (((w12.setCell ⟨gb115, 0, none⟩ (.int .i64 ((rd_T74 l0 x12_1).f0))).setCell ⟨gb115, 1, none⟩ (.slice A114_1 ((rd_T74 l0 x12_1).f1.f0).length c114_1)).setCell ⟨gb115, 2, none⟩ (.slice A114_2 ((rd_T74 l0 x12_1).f1.f1).length c114_2))) := ⟨bq1_ HB.out GE115.out⟩
           (try clear BK115)
           (try clear HB)
           generalize (((w12.setCell ⟨gb115, 0, none⟩ (.int .i64 ((rd_T74 l0 x12_1).f0))).setCell ⟨gb115, 1, none⟩ (.slice A114_1 ((rd_T74 l0 x12_1).f1.f0).length c114_1)).setCell ⟨gb115, 2, none⟩ (.slice A114_2 ((rd_T74 l0 x12_1).f1.f1).length c114_2)) = w14 at n0_ n1_ ⊢
           have BK115 := n0_
           have HB := n1_
           clear n0_ n1_
           replace BK115 := Aside0.mk (blk_drew BK115.out)
           replace HB := Aside0.mk (below_drew1 HB.out)
           have p117 : 0 ≤ (0 : Int) := (by omega)
           have q117 : 0 < (l0.length : Int) := od_
           obtain ⟨ad117, A117_1, c117_1, A117_2, c117_2, e117, hx117_0, hx117_1, hx117_2, hl117_1, hi117_1, hl117_2, hi117_2⟩ := at_T74 HR0.out 0 p117 q117
           have hw117_2 := hx117_2
           (try rw [show ((0 : Int)).toNat = 0 from rfl] at hw117_2)
           (try rw [show 0 * 3 = 0 from rfl] at hw117_2)
           (try rw [Addr.add_zero'] at hw117_2)
           have hw117_1 := hx117_1
           (try rw [show ((0 : Int)).toNat = 0 from rfl] at hw117_1)
           (try rw [show 0 * 3 = 0 from rfl] at hw117_1)
           (try rw [Addr.add_zero'] at hw117_1)
           have hw117_0 := hx117_0
           (try rw [show ((0 : Int)).toNat = 0 from rfl] at hw117_0)
           (try rw [show 0 * 3 = 0 from rfl] at hw117_0)
           (try rw [Addr.add_zero'] at hw117_0)
           obtain rfl : ad114 = ad117 := (by injection e117)
           have qi117 : (0 < l0.length) = True := eq_true (by omega)
           (try rw [show ((0 : Int)).toNat = 0 from rfl] at hx117_0)
           (try rw [show 0 * 3 = 0 from rfl] at hx117_0)
           (try rw [Addr.add_zero'] at hx117_0)
           (try rw [show ((0 : Int)).toNat = 0 from rfl] at hx117_1)
           (try rw [show 0 * 3 = 0 from rfl] at hx117_1)
           (try rw [Addr.add_zero'] at hx117_1)
           (try rw [show ((0 : Int)).toNat = 0 from rfl] at hx117_2)
           (try rw [show 0 * 3 = 0 from rfl] at hx117_2)
           (try rw [Addr.add_zero'] at hx117_2)
           replace hx117_0 := hb_ HB hx117_0
           replace hx117_1 := hb_ HB hx117_1
           replace hx117_2 := hb_ HB hx117_2
           have HR117_1 := Aside0.mk hi117_1
           have HC117_1 := Aside0.mk hl117_1
           clear hi117_1 hl117_1
           have HR117_2 := Aside0.mk hi117_2
           have HC117_2 := Aside0.mk hl117_2
           clear hi117_2 hl117_2
           replace p117 := eq_true p117
           replace q117 := eq_true q117
           refine start_ (n := 24) (S := fun w' => w'.cell? ⟨gb115, 0, none⟩ = some (.int .i64 ((rd_T74 l0 x12_1).f0)) ∧ w'.cell? ⟨gb115, 1, none⟩ = some (.slice A114_1 ((rd_T74 l0 x12_1).f1.f0).length c114_1) ∧ w'.cell? ⟨gb115, 2, none⟩ = some (.slice A114_2 ((rd_T74 l0 x12_1).f1.f1).length c114_2) ∧ w'.cell? ad114 = some (.int .i64 ((rd_T74 l0 0).f0)) ∧ w'.cell? ⟨ad114.block, ad114.off + 1, none⟩ = some (.slice A117_1 ((rd_T74 l0 0).f1.f0).length c117_1) ∧ w'.cell? ⟨ad114.block, ad114.off + 2, none⟩ = some (.slice A117_2 ((rd_T74 l0 0).f1.f1).length c117_2)) (ds := []) L26_0 (by kernel_rfl) rfl rfl ⟨(blk_cell BK115.out 0).trans rfl, (blk_cell BK115.out 1).trans rfl, (blk_cell BK115.out 2).trans rfl, ((HB.out.cell (World.block_lt_of_cell? w _ hw117_0)).trans hw117_0), ((HB.out.cell (World.block_lt_of_cell? w _ hw117_1)).trans hw117_1), ((HB.out.cell (World.block_lt_of_cell? w _ hw117_2)).trans hw117_2)⟩ (fun hHeld => ?_); refine with_tabW chain_Check.tab5 chain_Check.bits5 (fun HT_ HW_ => ?_)
           generalize w14.drew = w15 at BK115 HB HR117_1 HR117_2 hx117_0 hx117_1 hx117_2 hHeld ⊢
           refine pu_ 0 (some 16) L26_1 HT_ ?_
           refine pu_ 1 (some 17) L26_2 HT_ ?_
           refine pu_ 2 (some 18) L26_3 HT_ ?_
           refine pu_ 4 (some 20) L26_4 HT_ ?_
           refine ta_ 3 (some 19) L26_5 HT_ HW_ hHeld ?_ (hy := by rintro w' ⟨s0, s1, s2, s3, s4, s5⟩; go_simp; with_reducible rfl)
           refine pu_ 5 (some 21) L26_6 HT_ ?_
           refine pu_ 6 (some 22) L26_7 HT_ ?_
           refine pu_ 7 (some 23) L26_8 HT_ ?_
           refine pu_ 8 (some 24) L26_9 HT_ ?_
           refine ta_ 9 (some 25) L26_10 HT_ HW_ hHeld ?_ (hy := by rintro w' ⟨s0, s1, s2, s3, s4, s5⟩; go_simp; with_reducible rfl)
           refine one_ (i := 10) (N := some 26) L26_11 rfl rfl (one_of HT_.out (by kernel_rfl)) (by decide) (fun K hK => ?_)
           refine goes_ Try.func40 (by kernel_rfl) rfl #[.agg #[.slice A114_1 ((rd_T74 l0 x12_1).f1.f0).length c114_1, .slice A114_2 ((rd_T74 l0 x12_1).f1.f1).length c114_2]] (by rfl) rfl rfl (by (try simp only [List.map_toArray, List.map_cons, List.map_nil]); first | done | rfl | (simp only [List.length_drop, List.length_take]; rfl)) ?_
           with_reducible refine (tensor_Check.calls k1 _ _ ((rd_T74 l0 x12_1).f1.f0) _ _ ((rd_T74 l0 x12_1).f1.f1) true _ ?side1 ?side2 ?side3 ?side4 A7.out).mono ?_
           (case side1 => exact mvC_ ((Kd.C_below HR114_1.out HB.out)))
           (case side2 => exact HC114_1.out)
           (case side3 => exact mvC_ ((Kd.C_below HR114_2.out HB.out)))
           (case side4 => exact HC114_2.out)
           rintro e w16 ⟨rfl, hb⟩
           refine ⟨_, rfl, ?_⟩
           replace BK115 := mvB_ BK115.out hb
           replace HB := Aside0.mk (below_step (bq1_ HB.out GE115.out) hb)
           (try clear hb)
           (try clear hb2)
           (try clear hk)
           (try clear hi)
           refine hK.out _ _ ⟨(blk_cell BK115.out 0).trans rfl, (blk_cell BK115.out 1).trans rfl, (blk_cell BK115.out 2).trans rfl, ((HB.out.cell (World.block_lt_of_cell? w _ hw117_0)).trans hw117_0), ((HB.out.cell (World.block_lt_of_cell? w _ hw117_1)).trans hw117_1), ((HB.out.cell (World.block_lt_of_cell? w _ hw117_2)).trans hw117_2)⟩ (fun hHeld => ?_)
           clear hK K
           refine norm_ (a' := ?_) ?_ ?_
           rotate_left
           ·show Act.put _ (some 26) _ = _
            simp only [Act.put, sA_, sB_, sC_, i64_w, i32_w]
            rfl
           refine pu_ 11 (some 27) L26_12 HT_ ?_
           refine pu_ 12 (some 28) L26_13 HT_ ?_
           refine pu_ 13 (some 29) L26_14 HT_ ?_
           refine pu_ 14 (some 30) L26_15 HT_ ?_
           refine pu_ 16 (some 32) L26_16 HT_ ?_
           refine pu_ 17 (some 33) L26_17 HT_ ?_
           refine pu_ 18 (some 34) L26_18 HT_ ?_
           refine pu_ 19 (some 35) L26_19 HT_ ?_
           refine ta_ 15 (some 31) L26_20 HT_ HW_ hHeld ?_ (hy := by rintro w' ⟨s0, s1, s2, s3, s4, s5⟩; go_simp; with_reducible rfl)
           refine ta_ 20 (some 36) L26_21 HT_ HW_ hHeld ?_ (hy := by rintro w' ⟨s0, s1, s2, s3, s4, s5⟩; go_simp; with_reducible rfl)
           refine one_ (i := 21) (N := some 37) L26_22 rfl rfl (one_of HT_.out (by kernel_rfl)) (by decide) (fun K hK => ?_)
           refine goes_ Try.func43 (by kernel_rfl) rfl #[.slice A114_1 ((rd_T74 l0 x12_1).f1.f0).length c114_1, .slice A117_1 ((rd_T74 l0 0).f1.f0).length c117_1] (by rfl) rfl rfl (by (try simp only [List.map_toArray, List.map_cons, List.map_nil]); first | done | rfl | (simp only [List.length_drop, List.length_take]; rfl)) ?_
           with_reducible refine (slices_Equal_int_int.calls k1 _ _ ((rd_T74 l0 x12_1).f1.f0) _ _ ((rd_T74 l0 0).f1.f0) true _ ?side1 ?side2 ?side3 ?side4 A10.out).mono ?_
           (case side1 => exact mvC_ ((Kd.C_below HR114_1.out HB.out)))
           (case side2 => exact HC114_1.out)
           (case side3 => exact mvC_ ((Kd.C_below HR117_1.out HB.out)))
           (case side4 => exact HC117_1.out)
           rintro e w' ⟨rfl, ⟨nd, rfl⟩⟩
           refine ⟨_, rfl, ?_⟩
           refine hK.out _ _ ⟨(blk_cell BK115.out 0).trans rfl, (blk_cell BK115.out 1).trans rfl, (blk_cell BK115.out 2).trans rfl, ((HB.out.cell (World.block_lt_of_cell? w _ hw117_0)).trans hw117_0), ((HB.out.cell (World.block_lt_of_cell? w _ hw117_1)).trans hw117_1), ((HB.out.cell (World.block_lt_of_cell? w _ hw117_2)).trans hw117_2)⟩ (fun hHeld => ?_)
           clear hK K
           refine norm_ (a' := ?_) ?_ ?_
           rotate_left
           ·show Act.put _ (some 37) _ = _
            simp only [Act.put, sA_, sB_, sC_, i64_w, i32_w]
            rfl
           refine pu_ 22 (some 38) L26_23 HT_ ?_
           refine pu_ 23 (some 3) L26_24 HT_ ?_
           refine done_ (done_of HT_.out (by kernel_rfl)) ?_
           have hcz17_0 := hc_ BK115 0
           have hcz17_1 := hc_ BK115 1
           have hcz17_2 := hc_ BK115 2
           have hfz17_0 := blk_frozen BK115.out 0
           have hfz17_1 := blk_frozen BK115.out 1
           have hfz17_2 := blk_frozen BK115.out 2
           try (go_wp2; repeat (go_step3; go_wp2))
           go_roundg k1
           case measure => have := HK1.out; omega
           case rel => exact ⟨(true), ((rd_T74 l0 x12_1).f0), (wrap64 (x12_1 + 1)), (by first | rfl | (simp; done) | (simp [*]; done)), (by first | rfl | (simp; done) | (simp [*]; done)), (by first | rfl | (simp; done) | (simp [*]; done)), H', ⟨by have := HK1.out; omega⟩, ⟨bq1_ HB.out GE115.out⟩⟩
          ·replace c11 := Bool.eq_false_iff.mpr c11
           subst c11
           have H1 : (some false) = some r := by rw [if_neg (show ¬ (false = true) by decide)] at H; exact H
           clear H
           have H := H1
           clear H1
           obtain rfl := Option.some.inj H
           have p114 : 0 ≤ (x12_1 : Int) := od_
           have q114 : x12_1 < (l0.length : Int) := od_
           obtain ⟨ad114, A114_1, c114_1, A114_2, c114_2, e114, hx114_0, hx114_1, hx114_2, hl114_1, hi114_1, hl114_2, hi114_2⟩ := at_T74 HR0.out x12_1 p114 q114
           cases e114
           replace hx114_0 := hb_ HB hx114_0
           replace hx114_1 := hb_ HB hx114_1
           replace hx114_2 := hb_ HB hx114_2
           have HR114_1 := Aside0.mk hi114_1
           have HC114_1 := Aside0.mk hl114_1
           clear hi114_1 hl114_1
           have HR114_2 := Aside0.mk hi114_2
           have HC114_2 := Aside0.mk hl114_2
           clear hi114_2 hl114_2
           replace p114 := eq_true p114
           replace q114 := eq_true q114
           try go_wp2_with (first | ((with_reducible refine gate_dst (N := 6) rfl ?_); refine box_event ?hg (N := 6) ?hd (cs := #[.int .i64 0, .slice none 0 0, .slice none 0 0]) (t := 74) ?hr ?_; (case hd => rfl); (case hg => rfl); (case hr => first | (go_simp; done) | (go_simp; rfl)); intro gb115 hg w18 hbox hb; have BK115 := Aside0.mk (hbox); have GW115 := Aside0.mk ((by rw [hg]; exact (below_size (bq0_ HB.out)) : w.heap.size ≤ gb115)); have GE115 := Aside0.mk ((by rw [hg]; exact (below_size (bq0_ HB.out)) : w.heap.size ≤ gb115)); replace HB := Aside0.mk (below_step (bq0_ HB.out) hb); clear hb hbox hg; have hcz19_0 := cz0_ BK115.out; have hcz19_1 := cz1_ BK115.out; have hcz19_2 := cz2_ BK115.out; have hfz19_0 := blk_frozen BK115.out 0; have hfz19_1 := blk_frozen BK115.out 1; have hfz19_2 := blk_frozen BK115.out 2))
           have n0_ : Aside0 ((((w18.setCell ⟨gb115, 0, none⟩ (.int .i64 ((rd_T74 l0 x12_1).f0))).setCell ⟨gb115, 1, none⟩ (.slice A114_1 ((rd_T74 l0 x12_1).f1.f0).length c114_1)).setCell ⟨gb115, 2, none⟩ (.slice A114_2 ((rd_T74 l0 x12_1).f1.f1).length c114_2)).heap[gb115]? = some (.cells #[.int .i64 ((rd_T74 l0 x12_1).f0), .slice A114_1 ((rd_T74 l0 x12_1).f1.f0).length c114_1, .slice A114_2 ((rd_T74 l0 x12_1).f1.f1).length c114_2] 74 (0, 0))) := ⟨by (with_reducible repeat (first | refine blk_drewN ?_ _ | refine blk_drew ?_ | refine blk_alloc ?_ _)); refine blk_put (cs := #[.int .i64 ((rd_T74 l0 x12_1).f0), .slice A114_1 ((rd_T74 l0 x12_1).f1.f0).length c114_1, .slice none 0 0]) ?_ 2 _ rfl; (with_reducible repeat (first | refine blk_drewN ?_ _ | refine blk_drew ?_ | refine blk_alloc ?_ _)); refine blk_put (cs := #[.int .i64 ((rd_T74 l0 x12_1).f0), .slice none 0 0, .slice none 0 0]) ?_ 1 _ rfl; (with_reducible repeat (first | refine blk_drewN ?_ _ | refine blk_drew ?_ | refine blk_alloc ?_ _)); refine blk_put (cs := #[.int .i64 0, .slice none 0 0, .slice none 0 0]) ?_ 0 _ rfl; (with_reducible repeat (first | refine blk_drewN ?_ _ | refine blk_drew ?_ | refine blk_alloc ?_ _)); exact BK115.out⟩
           have n1_ : Aside0 (Below w.heap.size w (((w18.setCell ⟨gb115, 0, none⟩ (.int .i64 ((rd_T74 l0 x12_1).f0))).setCell ⟨gb115, 1, none⟩ (.slice A114_1 ((rd_T74 l0 x12_1).f1.f0).length c114_1)).setCell ⟨gb115, 2, none⟩ (.slice A114_2 ((rd_T74 l0 x12_1).f1.f1).length c114_2))) := ⟨bq1_ HB.out GE115.out⟩
           (try clear BK115)
           (try clear HB)
           generalize (((w18.setCell ⟨gb115, 0, none⟩ (.int .i64 ((rd_T74 l0 x12_1).f0))).setCell ⟨gb115, 1, none⟩ (.slice A114_1 ((rd_T74 l0 x12_1).f1.f0).length c114_1)).setCell ⟨gb115, 2, none⟩ (.slice A114_2 ((rd_T74 l0 x12_1).f1.f1).length c114_2)) = w20 at n0_ n1_ ⊢
           have BK115 := n0_
           have HB := n1_
           clear n0_ n1_
           replace BK115 := Aside0.mk (blk_drew BK115.out)
           replace HB := Aside0.mk (below_drew1 HB.out)
           have p117 : 0 ≤ (0 : Int) := (by omega)
           have q117 : 0 < (l0.length : Int) := od_
           obtain ⟨ad117, A117_1, c117_1, A117_2, c117_2, e117, hx117_0, hx117_1, hx117_2, hl117_1, hi117_1, hl117_2, hi117_2⟩ := at_T74 HR0.out 0 p117 q117
           have hw117_2 := hx117_2
           (try rw [show ((0 : Int)).toNat = 0 from rfl] at hw117_2)
           (try rw [show 0 * 3 = 0 from rfl] at hw117_2)
           (try rw [Addr.add_zero'] at hw117_2)
           have hw117_1 := hx117_1
           (try rw [show ((0 : Int)).toNat = 0 from rfl] at hw117_1)
           (try rw [show 0 * 3 = 0 from rfl] at hw117_1)
           (try rw [Addr.add_zero'] at hw117_1)
           have hw117_0 := hx117_0
           (try rw [show ((0 : Int)).toNat = 0 from rfl] at hw117_0)
           (try rw [show 0 * 3 = 0 from rfl] at hw117_0)
           (try rw [Addr.add_zero'] at hw117_0)
           obtain rfl : ad114 = ad117 := (by injection e117)
           have qi117 : (0 < l0.length) = True := eq_true (by omega)
           (try rw [show ((0 : Int)).toNat = 0 from rfl] at hx117_0)
           (try rw [show 0 * 3 = 0 from rfl] at hx117_0)
           (try rw [Addr.add_zero'] at hx117_0)
           (try rw [show ((0 : Int)).toNat = 0 from rfl] at hx117_1)
           (try rw [show 0 * 3 = 0 from rfl] at hx117_1)
           (try rw [Addr.add_zero'] at hx117_1)
           (try rw [show ((0 : Int)).toNat = 0 from rfl] at hx117_2)
           (try rw [show 0 * 3 = 0 from rfl] at hx117_2)
           (try rw [Addr.add_zero'] at hx117_2)
           replace hx117_0 := hb_ HB hx117_0
           replace hx117_1 := hb_ HB hx117_1
           replace hx117_2 := hb_ HB hx117_2
           have HR117_1 := Aside0.mk hi117_1
           have HC117_1 := Aside0.mk hl117_1
           clear hi117_1 hl117_1
           have HR117_2 := Aside0.mk hi117_2
           have HC117_2 := Aside0.mk hl117_2
           clear hi117_2 hl117_2
           replace p117 := eq_true p117
           replace q117 := eq_true q117
           refine start_ (n := 24) (S := fun w' => w'.cell? ⟨gb115, 0, none⟩ = some (.int .i64 ((rd_T74 l0 x12_1).f0)) ∧ w'.cell? ⟨gb115, 1, none⟩ = some (.slice A114_1 ((rd_T74 l0 x12_1).f1.f0).length c114_1) ∧ w'.cell? ⟨gb115, 2, none⟩ = some (.slice A114_2 ((rd_T74 l0 x12_1).f1.f1).length c114_2) ∧ w'.cell? ad114 = some (.int .i64 ((rd_T74 l0 0).f0)) ∧ w'.cell? ⟨ad114.block, ad114.off + 1, none⟩ = some (.slice A117_1 ((rd_T74 l0 0).f1.f0).length c117_1) ∧ w'.cell? ⟨ad114.block, ad114.off + 2, none⟩ = some (.slice A117_2 ((rd_T74 l0 0).f1.f1).length c117_2)) (ds := []) L26_0 (by kernel_rfl) rfl rfl ⟨(blk_cell BK115.out 0).trans rfl, (blk_cell BK115.out 1).trans rfl, (blk_cell BK115.out 2).trans rfl, ((HB.out.cell (World.block_lt_of_cell? w _ hw117_0)).trans hw117_0), ((HB.out.cell (World.block_lt_of_cell? w _ hw117_1)).trans hw117_1), ((HB.out.cell (World.block_lt_of_cell? w _ hw117_2)).trans hw117_2)⟩ (fun hHeld => ?_); refine with_tabW chain_Check.tab5 chain_Check.bits5 (fun HT_ HW_ => ?_)
           generalize w20.drew = w21 at BK115 HB HR117_1 HR117_2 hx117_0 hx117_1 hx117_2 hHeld ⊢
           refine pu_ 0 (some 16) L26_1 HT_ ?_
           refine pu_ 1 (some 17) L26_2 HT_ ?_
           refine pu_ 2 (some 18) L26_3 HT_ ?_
           refine pu_ 4 (some 20) L26_4 HT_ ?_
           refine ta_ 3 (some 19) L26_5 HT_ HW_ hHeld ?_ (hy := by rintro w' ⟨s0, s1, s2, s3, s4, s5⟩; go_simp; with_reducible rfl)
           refine pu_ 5 (some 21) L26_6 HT_ ?_
           refine pu_ 6 (some 22) L26_7 HT_ ?_
           refine pu_ 7 (some 23) L26_8 HT_ ?_
           refine pu_ 8 (some 24) L26_9 HT_ ?_
           refine ta_ 9 (some 25) L26_10 HT_ HW_ hHeld ?_ (hy := by rintro w' ⟨s0, s1, s2, s3, s4, s5⟩; go_simp; with_reducible rfl)
           refine one_ (i := 10) (N := some 26) L26_11 rfl rfl (one_of HT_.out (by kernel_rfl)) (by decide) (fun K hK => ?_)
           refine goes_ Try.func40 (by kernel_rfl) rfl #[.agg #[.slice A114_1 ((rd_T74 l0 x12_1).f1.f0).length c114_1, .slice A114_2 ((rd_T74 l0 x12_1).f1.f1).length c114_2]] (by rfl) rfl rfl (by (try simp only [List.map_toArray, List.map_cons, List.map_nil]); first | done | rfl | (simp only [List.length_drop, List.length_take]; rfl)) ?_
           with_reducible refine (tensor_Check.calls k1 _ _ ((rd_T74 l0 x12_1).f1.f0) _ _ ((rd_T74 l0 x12_1).f1.f1) true _ ?side1 ?side2 ?side3 ?side4 A7.out).mono ?_
           (case side1 => exact mvC_ ((Kd.C_below HR114_1.out HB.out)))
           (case side2 => exact HC114_1.out)
           (case side3 => exact mvC_ ((Kd.C_below HR114_2.out HB.out)))
           (case side4 => exact HC114_2.out)
           rintro e w22 ⟨rfl, hb⟩
           refine ⟨_, rfl, ?_⟩
           replace BK115 := mvB_ BK115.out hb
           replace HB := Aside0.mk (below_step (bq1_ HB.out GE115.out) hb)
           (try clear hb)
           (try clear hb2)
           (try clear hk)
           (try clear hi)
           refine hK.out _ _ ⟨(blk_cell BK115.out 0).trans rfl, (blk_cell BK115.out 1).trans rfl, (blk_cell BK115.out 2).trans rfl, ((HB.out.cell (World.block_lt_of_cell? w _ hw117_0)).trans hw117_0), ((HB.out.cell (World.block_lt_of_cell? w _ hw117_1)).trans hw117_1), ((HB.out.cell (World.block_lt_of_cell? w _ hw117_2)).trans hw117_2)⟩ (fun hHeld => ?_)
           clear hK K
           refine norm_ (a' := ?_) ?_ ?_
           rotate_left
           ·show Act.put _ (some 26) _ = _
            simp only [Act.put, sA_, sB_, sC_, i64_w, i32_w]
            rfl
           refine pu_ 11 (some 27) L26_12 HT_ ?_
           refine pu_ 12 (some 28) L26_13 HT_ ?_
           refine pu_ 13 (some 29) L26_14 HT_ ?_
           refine pu_ 14 (some 30) L26_15 HT_ ?_
           refine pu_ 16 (some 32) L26_16 HT_ ?_
           refine pu_ 17 (some 33) L26_17 HT_ ?_
           refine pu_ 18 (some 34) L26_18 HT_ ?_
           refine pu_ 19 (some 35) L26_19 HT_ ?_
           refine ta_ 15 (some 31) L26_20 HT_ HW_ hHeld ?_ (hy := by rintro w' ⟨s0, s1, s2, s3, s4, s5⟩; go_simp; with_reducible rfl)
           refine ta_ 20 (some 36) L26_21 HT_ HW_ hHeld ?_ (hy := by rintro w' ⟨s0, s1, s2, s3, s4, s5⟩; go_simp; with_reducible rfl)
           refine one_ (i := 21) (N := some 37) L26_22 rfl rfl (one_of HT_.out (by kernel_rfl)) (by decide) (fun K hK => ?_)
           refine goes_ Try.func43 (by kernel_rfl) rfl #[.slice A114_1 ((rd_T74 l0 x12_1).f1.f0).length c114_1, .slice A117_1 ((rd_T74 l0 0).f1.f0).length c117_1] (by rfl) rfl rfl (by (try simp only [List.map_toArray, List.map_cons, List.map_nil]); first | done | rfl | (simp only [List.length_drop, List.length_take]; rfl)) ?_
           with_reducible refine (slices_Equal_int_int.calls k1 _ _ ((rd_T74 l0 x12_1).f1.f0) _ _ ((rd_T74 l0 0).f1.f0) false _ ?side1 ?side2 ?side3 ?side4 A10.out).mono ?_
           (case side1 => exact mvC_ ((Kd.C_below HR114_1.out HB.out)))
           (case side2 => exact HC114_1.out)
           (case side3 => exact mvC_ ((Kd.C_below HR117_1.out HB.out)))
           (case side4 => exact HC117_1.out)
           rintro e w' ⟨rfl, ⟨nd, rfl⟩⟩
           refine ⟨_, rfl, ?_⟩
           refine hK.out _ _ ⟨(blk_cell BK115.out 0).trans rfl, (blk_cell BK115.out 1).trans rfl, (blk_cell BK115.out 2).trans rfl, ((HB.out.cell (World.block_lt_of_cell? w _ hw117_0)).trans hw117_0), ((HB.out.cell (World.block_lt_of_cell? w _ hw117_1)).trans hw117_1), ((HB.out.cell (World.block_lt_of_cell? w _ hw117_2)).trans hw117_2)⟩ (fun hHeld => ?_)
           clear hK K
           refine norm_ (a' := ?_) ?_ ?_
           rotate_left
           ·show Act.put _ (some 37) _ = _
            simp only [Act.put, sA_, sB_, sC_, i64_w, i32_w]
            rfl
           refine pu_ 22 (some 38) L26_23 HT_ ?_
           refine pu_ 23 (some 3) L26_24 HT_ ?_
           refine done_ (done_of HT_.out (by kernel_rfl)) ?_
           try (go_wp2; repeat (go_step3; go_wp2))
           (try rw [Exit.noGoto_ret])
           go_ret
           exact ⟨by first | rfl | (simp <;> rfl) | (simp [*] <;> rfl), bq1_ HB.out GE115.out⟩
         ·rw [if_neg c9] at H
          exact absurd H (by simp)
        ·replace c8 := Bool.eq_false_iff.mpr c8
         subst c8
         have H1 : (some false) = some r := by rw [if_neg (show ¬ (false = true) by decide)] at H; exact H
         clear H
         have H := H1
         clear H1
         obtain rfl := Option.some.inj H
         have p114 : 0 ≤ (x12_1 : Int) := od_
         have q114 : x12_1 < (l0.length : Int) := od_
         obtain ⟨ad114, A114_1, c114_1, A114_2, c114_2, e114, hx114_0, hx114_1, hx114_2, hl114_1, hi114_1, hl114_2, hi114_2⟩ := at_T74 HR0.out x12_1 p114 q114
         cases e114
         replace hx114_0 := hb_ HB hx114_0
         replace hx114_1 := hb_ HB hx114_1
         replace hx114_2 := hb_ HB hx114_2
         have HR114_1 := Aside0.mk hi114_1
         have HC114_1 := Aside0.mk hl114_1
         clear hi114_1 hl114_1
         have HR114_2 := Aside0.mk hi114_2
         have HC114_2 := Aside0.mk hl114_2
         clear hi114_2 hl114_2
         replace p114 := eq_true p114
         replace q114 := eq_true q114
         try go_wp2_with (first | ((with_reducible refine gate_dst (N := 6) rfl ?_); refine box_event ?hg (N := 6) ?hd (cs := #[.int .i64 0, .slice none 0 0, .slice none 0 0]) (t := 74) ?hr ?_; (case hd => rfl); (case hg => rfl); (case hr => first | (go_simp; done) | (go_simp; rfl)); intro gb115 hg w23 hbox hb; have BK115 := Aside0.mk (hbox); have GW115 := Aside0.mk ((by rw [hg]; exact (below_size (bq0_ HB.out)) : w.heap.size ≤ gb115)); have GE115 := Aside0.mk ((by rw [hg]; exact (below_size (bq0_ HB.out)) : w.heap.size ≤ gb115)); replace HB := Aside0.mk (below_step (bq0_ HB.out) hb); clear hb hbox hg; have hcz24_0 := cz0_ BK115.out; have hcz24_1 := cz1_ BK115.out; have hcz24_2 := cz2_ BK115.out; have hfz24_0 := blk_frozen BK115.out 0; have hfz24_1 := blk_frozen BK115.out 1; have hfz24_2 := blk_frozen BK115.out 2))
         have n0_ : Aside0 ((((w23.setCell ⟨gb115, 0, none⟩ (.int .i64 ((rd_T74 l0 x12_1).f0))).setCell ⟨gb115, 1, none⟩ (.slice A114_1 ((rd_T74 l0 x12_1).f1.f0).length c114_1)).setCell ⟨gb115, 2, none⟩ (.slice A114_2 ((rd_T74 l0 x12_1).f1.f1).length c114_2)).heap[gb115]? = some (.cells #[.int .i64 ((rd_T74 l0 x12_1).f0), .slice A114_1 ((rd_T74 l0 x12_1).f1.f0).length c114_1, .slice A114_2 ((rd_T74 l0 x12_1).f1.f1).length c114_2] 74 (0, 0))) := ⟨by (with_reducible repeat (first | refine blk_drewN ?_ _ | refine blk_drew ?_ | refine blk_alloc ?_ _)); refine blk_put (cs := #[.int .i64 ((rd_T74 l0 x12_1).f0), .slice A114_1 ((rd_T74 l0 x12_1).f1.f0).length c114_1, .slice none 0 0]) ?_ 2 _ rfl; (with_reducible repeat (first | refine blk_drewN ?_ _ | refine blk_drew ?_ | refine blk_alloc ?_ _)); refine blk_put (cs := #[.int .i64 ((rd_T74 l0 x12_1).f0), .slice none 0 0, .slice none 0 0]) ?_ 1 _ rfl; (with_reducible repeat (first | refine blk_drewN ?_ _ | refine blk_drew ?_ | refine blk_alloc ?_ _)); refine blk_put (cs := #[.int .i64 0, .slice none 0 0, .slice none 0 0]) ?_ 0 _ rfl; (with_reducible repeat (first | refine blk_drewN ?_ _ | refine blk_drew ?_ | refine blk_alloc ?_ _)); exact BK115.out⟩
         have n1_ : Aside0 (Below w.heap.size w (((w23.setCell ⟨gb115, 0, none⟩ (.int .i64 ((rd_T74 l0 x12_1).f0))).setCell ⟨gb115, 1, none⟩ (.slice A114_1 ((rd_T74 l0 x12_1).f1.f0).length c114_1)).setCell ⟨gb115, 2, none⟩ (.slice A114_2 ((rd_T74 l0 x12_1).f1.f1).length c114_2))) := ⟨bq1_ HB.out GE115.out⟩
         (try clear BK115)
         (try clear HB)
         generalize (((w23.setCell ⟨gb115, 0, none⟩ (.int .i64 ((rd_T74 l0 x12_1).f0))).setCell ⟨gb115, 1, none⟩ (.slice A114_1 ((rd_T74 l0 x12_1).f1.f0).length c114_1)).setCell ⟨gb115, 2, none⟩ (.slice A114_2 ((rd_T74 l0 x12_1).f1.f1).length c114_2)) = w25 at n0_ n1_ ⊢
         have BK115 := n0_
         have HB := n1_
         clear n0_ n1_
         replace BK115 := Aside0.mk (blk_drew BK115.out)
         replace HB := Aside0.mk (below_drew1 HB.out)
         refine start_ (n := 24) (S := fun w' => w'.cell? ⟨gb115, 0, none⟩ = some (.int .i64 ((rd_T74 l0 x12_1).f0)) ∧ w'.cell? ⟨gb115, 1, none⟩ = some (.slice A114_1 ((rd_T74 l0 x12_1).f1.f0).length c114_1) ∧ w'.cell? ⟨gb115, 2, none⟩ = some (.slice A114_2 ((rd_T74 l0 x12_1).f1.f1).length c114_2)) (ds := []) L26_0 (by kernel_rfl) rfl rfl ⟨(blk_cell BK115.out 0).trans rfl, (blk_cell BK115.out 1).trans rfl, (blk_cell BK115.out 2).trans rfl⟩ (fun hHeld => ?_); refine with_tabW chain_Check.tab5 chain_Check.bits5 (fun HT_ HW_ => ?_)
         generalize w25.drew = w26 at BK115 HB hHeld ⊢
         refine pu_ 0 (some 16) L26_1 HT_ ?_
         refine pu_ 1 (some 17) L26_2 HT_ ?_
         refine pu_ 2 (some 18) L26_3 HT_ ?_
         refine pu_ 4 (some 20) L26_4 HT_ ?_
         refine ta_ 3 (some 19) L26_5 HT_ HW_ hHeld ?_ (hy := by rintro w' ⟨s0, s1, s2⟩; go_simp; with_reducible rfl)
         refine pu_ 5 (some 21) L26_6 HT_ ?_
         refine pu_ 6 (some 22) L26_7 HT_ ?_
         refine pu_ 7 (some 23) L26_8 HT_ ?_
         refine pu_ 8 (some 24) L26_9 HT_ ?_
         refine ta_ 9 (some 25) L26_10 HT_ HW_ hHeld ?_ (hy := by rintro w' ⟨s0, s1, s2⟩; go_simp; with_reducible rfl)
         refine one_ (i := 10) (N := some 26) L26_11 rfl rfl (one_of HT_.out (by kernel_rfl)) (by decide) (fun K hK => ?_)
         refine goes_ Try.func40 (by kernel_rfl) rfl #[.agg #[.slice A114_1 ((rd_T74 l0 x12_1).f1.f0).length c114_1, .slice A114_2 ((rd_T74 l0 x12_1).f1.f1).length c114_2]] (by rfl) rfl rfl (by (try simp only [List.map_toArray, List.map_cons, List.map_nil]); first | done | rfl | (simp only [List.length_drop, List.length_take]; rfl)) ?_
         with_reducible refine (tensor_Check.calls k1 _ _ ((rd_T74 l0 x12_1).f1.f0) _ _ ((rd_T74 l0 x12_1).f1.f1) false _ ?side1 ?side2 ?side3 ?side4 A7.out).mono ?_
         (case side1 => exact mvC_ ((Kd.C_below HR114_1.out HB.out)))
         (case side2 => exact HC114_1.out)
         (case side3 => exact mvC_ ((Kd.C_below HR114_2.out HB.out)))
         (case side4 => exact HC114_2.out)
         rintro e w27 ⟨rfl, hb⟩
         refine ⟨_, rfl, ?_⟩
         replace BK115 := mvB_ BK115.out hb
         replace HB := Aside0.mk (below_step (bq1_ HB.out GE115.out) hb)
         (try clear hb)
         (try clear hb2)
         (try clear hk)
         (try clear hi)
         refine hK.out _ _ ⟨(blk_cell BK115.out 0).trans rfl, (blk_cell BK115.out 1).trans rfl, (blk_cell BK115.out 2).trans rfl⟩ (fun hHeld => ?_)
         clear hK K
         refine norm_ (a' := ?_) ?_ ?_
         rotate_left
         ·show Act.put _ (some 26) _ = _
          simp only [Act.put, sA_, sB_, sC_, i64_w, i32_w]
          rfl
         refine pu_ 11 (some 27) L26_12 HT_ ?_
         refine pu_ 12 (some 28) L26_13 HT_ ?_
         refine skips_ (fuel := 2) (m := 11) HT_.out (fun _ _ _ _ _ h => h) [(13, 29), (14, 30), (15, 31), (16, 32), (17, 33), (18, 34), (19, 35), (20, 36), (21, 37)] L26_22 rfl (by kernel_rfl) (by kernel_rfl) (a' := ?_) ?_ ?_
         rotate_left
         ·simp only [putU, Act.put, sA_, sB_, sC_]
          rfl
         refine pu_ 22 (some 38) L26_23 HT_ ?_
         refine pu_ 23 (some 3) L26_24 HT_ ?_
         refine done_ (done_of HT_.out (by kernel_rfl)) ?_
         try (go_wp2; repeat (go_step3; go_wp2))
         (try rw [Exit.noGoto_ret])
         go_ret
         exact ⟨by first | rfl | (simp <;> rfl) | (simp [*] <;> rfl), bq1_ HB.out GE115.out⟩
       ·rw [if_neg c6] at H
        have c6b0 : decide (x4_1 < ((rd_T74 l0 x12_1).f0)) = false := decide_eq_false c6
        clear c6
        obtain rfl := Option.some.inj H
        have p114 : 0 ≤ (x12_1 : Int) := od_
        have q114 : x12_1 < (l0.length : Int) := od_
        obtain ⟨ad114, A114_1, c114_1, A114_2, c114_2, e114, hx114_0, hx114_1, hx114_2, hl114_1, hi114_1, hl114_2, hi114_2⟩ := at_T74 HR0.out x12_1 p114 q114
        cases e114
        replace hx114_0 := hb_ HB hx114_0
        replace hx114_1 := hb_ HB hx114_1
        replace hx114_2 := hb_ HB hx114_2
        have HR114_1 := Aside0.mk hi114_1
        have HC114_1 := Aside0.mk hl114_1
        clear hi114_1 hl114_1
        have HR114_2 := Aside0.mk hi114_2
        have HC114_2 := Aside0.mk hl114_2
        clear hi114_2 hl114_2
        replace p114 := eq_true p114
        replace q114 := eq_true q114
        try go_wp2_with (first | ((with_reducible refine gate_dst (N := 6) rfl ?_); refine box_event ?hg (N := 6) ?hd (cs := #[.int .i64 0, .slice none 0 0, .slice none 0 0]) (t := 74) ?hr ?_; (case hd => rfl); (case hg => rfl); (case hr => first | (go_simp; done) | (go_simp; rfl)); intro gb115 hg w28 hbox hb; have BK115 := Aside0.mk (hbox); have GW115 := Aside0.mk ((by rw [hg]; exact (below_size (bq0_ HB.out)) : w.heap.size ≤ gb115)); have GE115 := Aside0.mk ((by rw [hg]; exact (below_size (bq0_ HB.out)) : w.heap.size ≤ gb115)); replace HB := Aside0.mk (below_step (bq0_ HB.out) hb); clear hb hbox hg; have hcz29_0 := cz0_ BK115.out; have hcz29_1 := cz1_ BK115.out; have hcz29_2 := cz2_ BK115.out; have hfz29_0 := blk_frozen BK115.out 0; have hfz29_1 := blk_frozen BK115.out 1; have hfz29_2 := blk_frozen BK115.out 2))
        have n0_ : Aside0 ((((w28.setCell ⟨gb115, 0, none⟩ (.int .i64 ((rd_T74 l0 x12_1).f0))).setCell ⟨gb115, 1, none⟩ (.slice A114_1 ((rd_T74 l0 x12_1).f1.f0).length c114_1)).setCell ⟨gb115, 2, none⟩ (.slice A114_2 ((rd_T74 l0 x12_1).f1.f1).length c114_2)).heap[gb115]? = some (.cells #[.int .i64 ((rd_T74 l0 x12_1).f0), .slice A114_1 ((rd_T74 l0 x12_1).f1.f0).length c114_1, .slice A114_2 ((rd_T74 l0 x12_1).f1.f1).length c114_2] 74 (0, 0))) := ⟨by (with_reducible repeat (first | refine blk_drewN ?_ _ | refine blk_drew ?_ | refine blk_alloc ?_ _)); refine blk_put (cs := #[.int .i64 ((rd_T74 l0 x12_1).f0), .slice A114_1 ((rd_T74 l0 x12_1).f1.f0).length c114_1, .slice none 0 0]) ?_ 2 _ rfl; (with_reducible repeat (first | refine blk_drewN ?_ _ | refine blk_drew ?_ | refine blk_alloc ?_ _)); refine blk_put (cs := #[.int .i64 ((rd_T74 l0 x12_1).f0), .slice none 0 0, .slice none 0 0]) ?_ 1 _ rfl; (with_reducible repeat (first | refine blk_drewN ?_ _ | refine blk_drew ?_ | refine blk_alloc ?_ _)); refine blk_put (cs := #[.int .i64 0, .slice none 0 0, .slice none 0 0]) ?_ 0 _ rfl; (with_reducible repeat (first | refine blk_drewN ?_ _ | refine blk_drew ?_ | refine blk_alloc ?_ _)); exact BK115.out⟩
        have n1_ : Aside0 (Below w.heap.size w (((w28.setCell ⟨gb115, 0, none⟩ (.int .i64 ((rd_T74 l0 x12_1).f0))).setCell ⟨gb115, 1, none⟩ (.slice A114_1 ((rd_T74 l0 x12_1).f1.f0).length c114_1)).setCell ⟨gb115, 2, none⟩ (.slice A114_2 ((rd_T74 l0 x12_1).f1.f1).length c114_2))) := ⟨bq1_ HB.out GE115.out⟩
        (try clear BK115)
        (try clear HB)
        generalize (((w28.setCell ⟨gb115, 0, none⟩ (.int .i64 ((rd_T74 l0 x12_1).f0))).setCell ⟨gb115, 1, none⟩ (.slice A114_1 ((rd_T74 l0 x12_1).f1.f0).length c114_1)).setCell ⟨gb115, 2, none⟩ (.slice A114_2 ((rd_T74 l0 x12_1).f1.f1).length c114_2)) = w30 at n0_ n1_ ⊢
        have BK115 := n0_
        have HB := n1_
        clear n0_ n1_
        replace BK115 := Aside0.mk (blk_drew BK115.out)
        replace HB := Aside0.mk (below_drew1 HB.out)
        refine start_ (n := 24) (S := fun w' => w'.cell? ⟨gb115, 0, none⟩ = some (.int .i64 ((rd_T74 l0 x12_1).f0)) ∧ w'.cell? ⟨gb115, 1, none⟩ = some (.slice A114_1 ((rd_T74 l0 x12_1).f1.f0).length c114_1) ∧ w'.cell? ⟨gb115, 2, none⟩ = some (.slice A114_2 ((rd_T74 l0 x12_1).f1.f1).length c114_2)) (ds := []) L26_0 (by kernel_rfl) rfl rfl ⟨(blk_cell BK115.out 0).trans rfl, (blk_cell BK115.out 1).trans rfl, (blk_cell BK115.out 2).trans rfl⟩ (fun hHeld => ?_); refine with_tabW chain_Check.tab5 chain_Check.bits5 (fun HT_ HW_ => ?_)
        generalize w30.drew = w31 at BK115 HB hHeld ⊢
        refine pu_ 0 (some 16) L26_1 HT_ ?_
        refine pu_ 1 (some 17) L26_2 HT_ ?_
        refine pu_ 2 (some 18) L26_3 HT_ ?_
        refine pu_ 4 (some 20) L26_4 HT_ ?_
        refine ta_ 3 (some 19) L26_5 HT_ HW_ hHeld ?_ (hy := by rintro w' ⟨s0, s1, s2⟩; go_simp; with_reducible rfl)
        refine pu_ 5 (some 21) L26_6 HT_ ?_
        refine pu_ 6 (some 22) L26_7 HT_ ?_
        refine pu_ 7 (some 23) L26_8 HT_ ?_
        refine skips_ (fuel := 13) (m := 16) HT_.out (fun _ _ _ _ _ h => h) [(8, 24), (9, 25), (10, 26)] L26_11 rfl (by kernel_rfl) (by kernel_rfl) (a' := ?_) ?_ ?_
        rotate_left
        ·simp only [putU, Act.put, sA_, sB_, sC_]
         rfl
        refine pu_ 11 (some 27) L26_12 HT_ ?_
        refine pu_ 12 (some 28) L26_13 HT_ ?_
        refine skips_ (fuel := 2) (m := 11) HT_.out (fun _ _ _ _ _ h => h) [(13, 29), (14, 30), (15, 31), (16, 32), (17, 33), (18, 34), (19, 35), (20, 36), (21, 37)] L26_22 rfl (by kernel_rfl) (by kernel_rfl) (a' := ?_) ?_ ?_
        rotate_left
        ·simp only [putU, Act.put, sA_, sB_, sC_]
         rfl
        refine pu_ 22 (some 38) L26_23 HT_ ?_
        refine pu_ 23 (some 3) L26_24 HT_ ?_
        refine done_ (done_of HT_.out (by kernel_rfl)) ?_
        try (go_wp2; repeat (go_step3; go_wp2))
        (try rw [Exit.noGoto_ret])
        go_ret
        exact ⟨by first | rfl | (simp <;> rfl) | (simp [*] <;> rfl), bq1_ HB.out GE115.out⟩
      ·replace c5 := Bool.eq_false_iff.mpr c5
       subst c5
       have H1 : (some false) = some r := by rw [if_neg (show ¬ (false = true) by decide)] at H; exact H
       clear H
       have H := H1
       clear H1
       obtain rfl := Option.some.inj H
       have p114 : 0 ≤ (x12_1 : Int) := od_
       have q114 : x12_1 < (l0.length : Int) := od_
       obtain ⟨ad114, A114_1, c114_1, A114_2, c114_2, e114, hx114_0, hx114_1, hx114_2, hl114_1, hi114_1, hl114_2, hi114_2⟩ := at_T74 HR0.out x12_1 p114 q114
       cases e114
       replace hx114_0 := hb_ HB hx114_0
       replace hx114_1 := hb_ HB hx114_1
       replace hx114_2 := hb_ HB hx114_2
       have HR114_1 := Aside0.mk hi114_1
       have HC114_1 := Aside0.mk hl114_1
       clear hi114_1 hl114_1
       have HR114_2 := Aside0.mk hi114_2
       have HC114_2 := Aside0.mk hl114_2
       clear hi114_2 hl114_2
       replace p114 := eq_true p114
       replace q114 := eq_true q114
       try go_wp2_with (first | ((with_reducible refine gate_dst (N := 6) rfl ?_); refine box_event ?hg (N := 6) ?hd (cs := #[.int .i64 0, .slice none 0 0, .slice none 0 0]) (t := 74) ?hr ?_; (case hd => rfl); (case hg => rfl); (case hr => first | (go_simp; done) | (go_simp; rfl)); intro gb115 hg w32 hbox hb; have BK115 := Aside0.mk (hbox); have GW115 := Aside0.mk ((by rw [hg]; exact (below_size (bq0_ HB.out)) : w.heap.size ≤ gb115)); have GE115 := Aside0.mk ((by rw [hg]; exact (below_size (bq0_ HB.out)) : w.heap.size ≤ gb115)); replace HB := Aside0.mk (below_step (bq0_ HB.out) hb); clear hb hbox hg; have hcz33_0 := cz0_ BK115.out; have hcz33_1 := cz1_ BK115.out; have hcz33_2 := cz2_ BK115.out; have hfz33_0 := blk_frozen BK115.out 0; have hfz33_1 := blk_frozen BK115.out 1; have hfz33_2 := blk_frozen BK115.out 2))
       have n0_ : Aside0 ((((w32.setCell ⟨gb115, 0, none⟩ (.int .i64 ((rd_T74 l0 x12_1).f0))).setCell ⟨gb115, 1, none⟩ (.slice A114_1 ((rd_T74 l0 x12_1).f1.f0).length c114_1)).setCell ⟨gb115, 2, none⟩ (.slice A114_2 ((rd_T74 l0 x12_1).f1.f1).length c114_2)).heap[gb115]? = some (.cells #[.int .i64 ((rd_T74 l0 x12_1).f0), .slice A114_1 ((rd_T74 l0 x12_1).f1.f0).length c114_1, .slice A114_2 ((rd_T74 l0 x12_1).f1.f1).length c114_2] 74 (0, 0))) := ⟨by (with_reducible repeat (first | refine blk_drewN ?_ _ | refine blk_drew ?_ | refine blk_alloc ?_ _)); refine blk_put (cs := #[.int .i64 ((rd_T74 l0 x12_1).f0), .slice A114_1 ((rd_T74 l0 x12_1).f1.f0).length c114_1, .slice none 0 0]) ?_ 2 _ rfl; (with_reducible repeat (first | refine blk_drewN ?_ _ | refine blk_drew ?_ | refine blk_alloc ?_ _)); refine blk_put (cs := #[.int .i64 ((rd_T74 l0 x12_1).f0), .slice none 0 0, .slice none 0 0]) ?_ 1 _ rfl; (with_reducible repeat (first | refine blk_drewN ?_ _ | refine blk_drew ?_ | refine blk_alloc ?_ _)); refine blk_put (cs := #[.int .i64 0, .slice none 0 0, .slice none 0 0]) ?_ 0 _ rfl; (with_reducible repeat (first | refine blk_drewN ?_ _ | refine blk_drew ?_ | refine blk_alloc ?_ _)); exact BK115.out⟩
       have n1_ : Aside0 (Below w.heap.size w (((w32.setCell ⟨gb115, 0, none⟩ (.int .i64 ((rd_T74 l0 x12_1).f0))).setCell ⟨gb115, 1, none⟩ (.slice A114_1 ((rd_T74 l0 x12_1).f1.f0).length c114_1)).setCell ⟨gb115, 2, none⟩ (.slice A114_2 ((rd_T74 l0 x12_1).f1.f1).length c114_2))) := ⟨bq1_ HB.out GE115.out⟩
       (try clear BK115)
       (try clear HB)
       generalize (((w32.setCell ⟨gb115, 0, none⟩ (.int .i64 ((rd_T74 l0 x12_1).f0))).setCell ⟨gb115, 1, none⟩ (.slice A114_1 ((rd_T74 l0 x12_1).f1.f0).length c114_1)).setCell ⟨gb115, 2, none⟩ (.slice A114_2 ((rd_T74 l0 x12_1).f1.f1).length c114_2)) = w34 at n0_ n1_ ⊢
       have BK115 := n0_
       have HB := n1_
       clear n0_ n1_
       replace BK115 := Aside0.mk (blk_drew BK115.out)
       replace HB := Aside0.mk (below_drew1 HB.out)
       refine start_ (n := 24) (S := fun w' => True) (ds := []) L26_0 (by kernel_rfl) rfl rfl trivial (fun hHeld => ?_); refine with_tabW chain_Check.tab5 chain_Check.bits5 (fun HT_ HW_ => ?_)
       generalize w34.drew = w35 at BK115 HB hHeld ⊢
       refine pu_ 0 (some 16) L26_1 HT_ ?_
       refine pu_ 1 (some 17) L26_2 HT_ ?_
       refine skips_ (fuel := 18) (m := 22) HT_.out (fun _ _ _ _ _ h => h) [(2, 18), (3, 19), (4, 20), (5, 21)] L26_6 rfl (by kernel_rfl) (by kernel_rfl) (a' := ?_) ?_ ?_
       rotate_left
       ·simp only [putU, Act.put, sA_, sB_, sC_]
        rfl
       refine pu_ 6 (some 22) L26_7 HT_ ?_
       refine pu_ 7 (some 23) L26_8 HT_ ?_
       refine skips_ (fuel := 13) (m := 16) HT_.out (fun _ _ _ _ _ h => h) [(8, 24), (9, 25), (10, 26)] L26_11 rfl (by kernel_rfl) (by kernel_rfl) (a' := ?_) ?_ ?_
       rotate_left
       ·simp only [putU, Act.put, sA_, sB_, sC_]
        rfl
       refine pu_ 11 (some 27) L26_12 HT_ ?_
       refine pu_ 12 (some 28) L26_13 HT_ ?_
       refine skips_ (fuel := 2) (m := 11) HT_.out (fun _ _ _ _ _ h => h) [(13, 29), (14, 30), (15, 31), (16, 32), (17, 33), (18, 34), (19, 35), (20, 36), (21, 37)] L26_22 rfl (by kernel_rfl) (by kernel_rfl) (a' := ?_) ?_ ?_
       rotate_left
       ·simp only [putU, Act.put, sA_, sB_, sC_]
        rfl
       refine pu_ 22 (some 38) L26_23 HT_ ?_
       refine pu_ 23 (some 3) L26_24 HT_ ?_
       refine done_ (done_of HT_.out (by kernel_rfl)) ?_
       try (go_wp2; repeat (go_step3; go_wp2))
       (try rw [Exit.noGoto_ret])
       go_ret
       exact ⟨by first | rfl | (simp <;> rfl) | (simp [*] <;> rfl), bq1_ HB.out GE115.out⟩
     ·rw [if_neg c4] at H
      exact absurd H (by simp)
    ·rw [if_neg c3] at H
     exact absurd H (by simp)
   ·rw [if_neg c2] at H
    have c2b0 : decide (x12_1 < (l0.length : Int)) = false := decide_eq_false c2
    clear c2
    obtain rfl := Option.some.inj H
    (go_wp2; repeat (go_step3; go_wp2))
    (try rw [Exit.noGoto_ret])
    go_ret
    exact ⟨by first | rfl | (simp <;> rfl) | (simp [*] <;> rfl), bq0_ HB.out⟩
end Go.Proofs.Ytmolbbebglfhmaa.A
